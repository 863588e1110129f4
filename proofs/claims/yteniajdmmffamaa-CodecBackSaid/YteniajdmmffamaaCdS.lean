/- codec's Reader: Left, End, a text. No conditions but that memory holds what is written. -/
import Derived.Test.YteniajdmmffamaaCdR
namespace Go.Proofs.Yteniajdmmffamaa
set_option linter.unusedSimpArgs false
set_option linter.unusedVariables false
open Go.RowKit
attribute [local irreducible] wpList

set_option maxRecDepth 100000 in
set_option maxHeartbeats 1500000 in
theorem rleft_c (p : Nat) (v : Value) (l : List UInt8) (e0 : Int) (w : World) (hrd : Rdr w p v l e0) :
    Calls Try.prog 16 #[.pointer (some ⟨p, 0, none⟩)] w fun e w' => Ret (.int .i64 (l.length : Int)) w w' e := by
  have off0 : Off [] w w := Off.refl _ _
  have sz := off0.size
  obtain ⟨k_p, ow_b, ne_b_p⟩ := hrd
  go_enter Try.func16, Try.ntmps16
  go_upto_region 3 with fail
  refine wp_region_lit ?_
  (refine wpL_val (v := ?_) (by rfl) ?_ ?_; rotate_left 1; (focus (go_simp; first | done | with_reducible rfl)))
  (try simp only [Act.put, List.setIfInBounds_toArray, List.set_cons_zero, List.set_cons_succ])
  (refine wpL_val (v := ?_) (by rfl) ?_ ?_; rotate_left 1; (focus (go_simp; first | done | with_reducible rfl)))
  (try simp only [Act.put, List.setIfInBounds_toArray, List.set_cons_zero, List.set_cons_succ])
  (refine wpL_val (v := ?_) (by rfl) ?_ ?_; rotate_left 1; (focus (go_simp; first | done | with_reducible rfl)))
  (try simp only [Act.put, List.setIfInBounds_toArray, List.set_cons_zero, List.set_cons_succ])
  refine wpL_get (v := v) (by rfl) rfl rfl k_p (by rfl) (by kernel_rfl) ?_
  (try simp only [Act.put, List.setIfInBounds_toArray, List.set_cons_zero, List.set_cons_succ])
  refine wpL_len (l := l) ow_b (by rfl) rfl rfl ?_
  (try simp only [Act.put, List.setIfInBounds_toArray, List.set_cons_zero, List.set_cons_succ])
  (refine wpL_val (v := ?_) (by rfl) ?_ ?_; rotate_left 1; (focus (go_simp; first | done | with_reducible rfl)))
  (try simp only [Act.put, List.setIfInBounds_toArray, List.set_cons_zero, List.set_cons_succ])
  refine wpL_nil ?_
  go_wp2
  exact bodyPost_ret (v := .int .i64 (l.length : Int)) (by simp only [results, Try.results16]; first | (go_simp; done) | (go_simp; rfl)) rfl ⟨rfl, off0.ext⟩
set_option maxRecDepth 100000 in
set_option maxHeartbeats 1500000 in
theorem rend_ok (p : Nat) (v : Value) (w : World) (hrd : Rdr w p v ([]) 0) :
    Calls Try.prog 15 #[.pointer (some ⟨p, 0, none⟩)] w fun e w' => Ret (.int .i64 0) w w' e := by
  have off0 : Off [] w w := Off.refl _ _
  have sz := off0.size
  obtain ⟨k_p, ow_b, ne_b_p⟩ := hrd
  go_enter Try.func15, Try.ntmps15
  go_upto_region 3 with fail
  refine wp_region_lit ?_
  (refine wpL_val (v := ?_) (by rfl) ?_ ?_; rotate_left 1; (focus (go_simp; first | done | with_reducible rfl)))
  (try simp only [Act.put, List.setIfInBounds_toArray, List.set_cons_zero, List.set_cons_succ])
  (refine wpL_val (v := ?_) (by rfl) ?_ ?_; rotate_left 1; (focus (go_simp; first | done | with_reducible rfl)))
  (try simp only [Act.put, List.setIfInBounds_toArray, List.set_cons_zero, List.set_cons_succ])
  (refine wpL_val (v := ?_) (by rfl) ?_ ?_; rotate_left 1; (focus (go_simp; first | done | with_reducible rfl)))
  (try simp only [Act.put, List.setIfInBounds_toArray, List.set_cons_zero, List.set_cons_succ])
  refine wpL_get (v := .int .i64 0) (by rfl) rfl rfl k_p (by rfl) (by kernel_rfl) ?_
  (try simp only [Act.put, List.setIfInBounds_toArray, List.set_cons_zero, List.set_cons_succ])
  refine wpL_val (v := .bool true) (by rfl) (by first | rfl | (go_simp; done) | (go_simp; with_reducible rfl) | (go_simp; omega)) ?_
  (try simp only [Act.put, List.setIfInBounds_toArray, List.set_cons_zero, List.set_cons_succ])
  refine wpL_val (v := .bool true) (by rfl) (by first | rfl | (go_simp; done) | (go_simp; with_reducible rfl) | (go_simp; omega)) ?_
  (try simp only [Act.put, List.setIfInBounds_toArray, List.set_cons_zero, List.set_cons_succ])
  (refine wpL_val (v := ?_) (by rfl) ?_ ?_; rotate_left 1; (focus (go_simp; first | done | with_reducible rfl)))
  (try simp only [Act.put, List.setIfInBounds_toArray, List.set_cons_zero, List.set_cons_succ])
  (refine wpL_val (v := ?_) (by rfl) ?_ ?_; rotate_left 1; (focus (go_simp; first | done | with_reducible rfl)))
  (try simp only [Act.put, List.setIfInBounds_toArray, List.set_cons_zero, List.set_cons_succ])
  (refine wpL_val (v := ?_) (by rfl) ?_ ?_; rotate_left 1; (focus (go_simp; first | done | with_reducible rfl)))
  (try simp only [Act.put, List.setIfInBounds_toArray, List.set_cons_zero, List.set_cons_succ])
  refine wpL_get (v := v) (by rfl) rfl rfl k_p (by rfl) (by kernel_rfl) ?_
  (try simp only [Act.put, List.setIfInBounds_toArray, List.set_cons_zero, List.set_cons_succ])
  refine wpL_len (l := []) ow_b (by rfl) rfl rfl ?_
  (try simp only [Act.put, List.setIfInBounds_toArray, List.set_cons_zero, List.set_cons_succ])
  refine wpL_val (v := .bool false) (by rfl) (by first | rfl | (go_simp; done) | (go_simp; with_reducible rfl) | (go_simp; omega)) ?_
  (try simp only [Act.put, List.setIfInBounds_toArray, List.set_cons_zero, List.set_cons_succ])
  refine wpL_val (v := .bool false) (by rfl) (by first | rfl | (go_simp; done) | (go_simp; with_reducible rfl) | (go_simp; omega)) ?_
  (try simp only [Act.put, List.setIfInBounds_toArray, List.set_cons_zero, List.set_cons_succ])
  refine wpL_val (v := .bool false) (by rfl) (by first | rfl | (go_simp; done) | (go_simp; with_reducible rfl) | (go_simp; omega)) ?_
  (try simp only [Act.put, List.setIfInBounds_toArray, List.set_cons_zero, List.set_cons_succ])
  refine wpL_nil ?_
  go_upto_region 5 with fail
  refine wp_region_lit ?_
  (refine wpL_val (v := ?_) (by rfl) ?_ ?_; rotate_left 1; (focus (go_simp; first | done | with_reducible rfl)))
  (try simp only [Act.put, List.setIfInBounds_toArray, List.set_cons_zero, List.set_cons_succ])
  (refine wpL_val (v := ?_) (by rfl) ?_ ?_; rotate_left 1; (focus (go_simp; first | done | with_reducible rfl)))
  (try simp only [Act.put, List.setIfInBounds_toArray, List.set_cons_zero, List.set_cons_succ])
  (refine wpL_val (v := ?_) (by rfl) ?_ ?_; rotate_left 1; (focus (go_simp; first | done | with_reducible rfl)))
  (try simp only [Act.put, List.setIfInBounds_toArray, List.set_cons_zero, List.set_cons_succ])
  refine wpL_get (v := .int .i64 0) (by rfl) rfl rfl k_p (by rfl) (by kernel_rfl) ?_
  (try simp only [Act.put, List.setIfInBounds_toArray, List.set_cons_zero, List.set_cons_succ])
  refine wpL_val (v := .int .i64 0) (by rfl) (by first | rfl | (go_simp; done) | (go_simp; with_reducible rfl) | (go_simp; omega)) ?_
  (try simp only [Act.put, List.setIfInBounds_toArray, List.set_cons_zero, List.set_cons_succ])
  refine wpL_nil ?_
  go_wp2
  exact bodyPost_ret (v := .int .i64 0) (by simp only [results, Try.results15]; first | (go_simp; done) | (go_simp; rfl)) rfl ⟨rfl, off0.ext⟩
set_option maxRecDepth 100000 in
set_option maxHeartbeats 1500000 in
theorem rend_tail (p : Nat) (v : Value) (c : UInt8) (r : List UInt8) (w : World) (hrd : Rdr w p v (c :: r) 0) :
    Calls Try.prog 15 #[.pointer (some ⟨p, 0, none⟩)] w fun e w' => Ret (.int .i64 4) w w' e := by
  have off0 : Off [] w w := Off.refl _ _
  have sz := off0.size
  obtain ⟨k_p, ow_b, ne_b_p⟩ := hrd
  go_enter Try.func15, Try.ntmps15
  go_upto_region 3 with fail
  refine wp_region_lit ?_
  (refine wpL_val (v := ?_) (by rfl) ?_ ?_; rotate_left 1; (focus (go_simp; first | done | with_reducible rfl)))
  (try simp only [Act.put, List.setIfInBounds_toArray, List.set_cons_zero, List.set_cons_succ])
  (refine wpL_val (v := ?_) (by rfl) ?_ ?_; rotate_left 1; (focus (go_simp; first | done | with_reducible rfl)))
  (try simp only [Act.put, List.setIfInBounds_toArray, List.set_cons_zero, List.set_cons_succ])
  (refine wpL_val (v := ?_) (by rfl) ?_ ?_; rotate_left 1; (focus (go_simp; first | done | with_reducible rfl)))
  (try simp only [Act.put, List.setIfInBounds_toArray, List.set_cons_zero, List.set_cons_succ])
  refine wpL_get (v := .int .i64 0) (by rfl) rfl rfl k_p (by rfl) (by kernel_rfl) ?_
  (try simp only [Act.put, List.setIfInBounds_toArray, List.set_cons_zero, List.set_cons_succ])
  refine wpL_val (v := .bool true) (by rfl) (by first | rfl | (go_simp; done) | (go_simp; with_reducible rfl) | (go_simp; omega)) ?_
  (try simp only [Act.put, List.setIfInBounds_toArray, List.set_cons_zero, List.set_cons_succ])
  refine wpL_val (v := .bool true) (by rfl) (by first | rfl | (go_simp; done) | (go_simp; with_reducible rfl) | (go_simp; omega)) ?_
  (try simp only [Act.put, List.setIfInBounds_toArray, List.set_cons_zero, List.set_cons_succ])
  (refine wpL_val (v := ?_) (by rfl) ?_ ?_; rotate_left 1; (focus (go_simp; first | done | with_reducible rfl)))
  (try simp only [Act.put, List.setIfInBounds_toArray, List.set_cons_zero, List.set_cons_succ])
  (refine wpL_val (v := ?_) (by rfl) ?_ ?_; rotate_left 1; (focus (go_simp; first | done | with_reducible rfl)))
  (try simp only [Act.put, List.setIfInBounds_toArray, List.set_cons_zero, List.set_cons_succ])
  (refine wpL_val (v := ?_) (by rfl) ?_ ?_; rotate_left 1; (focus (go_simp; first | done | with_reducible rfl)))
  (try simp only [Act.put, List.setIfInBounds_toArray, List.set_cons_zero, List.set_cons_succ])
  refine wpL_get (v := v) (by rfl) rfl rfl k_p (by rfl) (by kernel_rfl) ?_
  (try simp only [Act.put, List.setIfInBounds_toArray, List.set_cons_zero, List.set_cons_succ])
  refine wpL_len (l := (c :: r)) ow_b (by rfl) rfl rfl ?_
  (try simp only [Act.put, List.setIfInBounds_toArray, List.set_cons_zero, List.set_cons_succ])
  refine wpL_val (v := .bool true) (by rfl) (by first | rfl | (go_simp; done) | (go_simp; with_reducible rfl) | (go_simp; omega)) ?_
  (try simp only [Act.put, List.setIfInBounds_toArray, List.set_cons_zero, List.set_cons_succ])
  refine wpL_val (v := .bool true) (by rfl) (by first | rfl | (go_simp; done) | (go_simp; with_reducible rfl) | (go_simp; omega)) ?_
  (try simp only [Act.put, List.setIfInBounds_toArray, List.set_cons_zero, List.set_cons_succ])
  refine wpL_val (v := .bool true) (by rfl) (by first | rfl | (go_simp; done) | (go_simp; with_reducible rfl) | (go_simp; omega)) ?_
  (try simp only [Act.put, List.setIfInBounds_toArray, List.set_cons_zero, List.set_cons_succ])
  refine wpL_nil ?_
  go_wp2
  exact bodyPost_ret (v := .int .i64 4) (by simp only [results, Try.results15]; first | (go_simp; done) | (go_simp; rfl)) rfl ⟨rfl, off0.ext⟩
set_option maxRecDepth 100000 in
set_option maxHeartbeats 1500000 in
theorem rend_err (p : Nat) (v : Value) (l : List UInt8) (w : World) (hrd : Rdr w p v (l) 5) :
    Calls Try.prog 15 #[.pointer (some ⟨p, 0, none⟩)] w fun e w' => Ret (.int .i64 5) w w' e := by
  have off0 : Off [] w w := Off.refl _ _
  have sz := off0.size
  obtain ⟨k_p, ow_b, ne_b_p⟩ := hrd
  go_enter Try.func15, Try.ntmps15
  go_upto_region 3 with fail
  refine wp_region_lit ?_
  (refine wpL_val (v := ?_) (by rfl) ?_ ?_; rotate_left 1; (focus (go_simp; first | done | with_reducible rfl)))
  (try simp only [Act.put, List.setIfInBounds_toArray, List.set_cons_zero, List.set_cons_succ])
  (refine wpL_val (v := ?_) (by rfl) ?_ ?_; rotate_left 1; (focus (go_simp; first | done | with_reducible rfl)))
  (try simp only [Act.put, List.setIfInBounds_toArray, List.set_cons_zero, List.set_cons_succ])
  (refine wpL_val (v := ?_) (by rfl) ?_ ?_; rotate_left 1; (focus (go_simp; first | done | with_reducible rfl)))
  (try simp only [Act.put, List.setIfInBounds_toArray, List.set_cons_zero, List.set_cons_succ])
  refine wpL_get (v := .int .i64 5) (by rfl) rfl rfl k_p (by rfl) (by kernel_rfl) ?_
  (try simp only [Act.put, List.setIfInBounds_toArray, List.set_cons_zero, List.set_cons_succ])
  refine wpL_val (v := .bool false) (by rfl) (by first | rfl | (go_simp; done) | (go_simp; with_reducible rfl) | (go_simp; omega)) ?_
  (try simp only [Act.put, List.setIfInBounds_toArray, List.set_cons_zero, List.set_cons_succ])
  refine wpL_val (v := .bool false) (by rfl) (by first | rfl | (go_simp; done) | (go_simp; with_reducible rfl) | (go_simp; omega)) ?_
  (try simp only [Act.put, List.setIfInBounds_toArray, List.set_cons_zero, List.set_cons_succ])
  refine wpL_skip (by rfl) ?_
  (try simp only [Act.put, List.setIfInBounds_toArray, List.set_cons_zero, List.set_cons_succ])
  refine wpL_skip (by rfl) ?_
  (try simp only [Act.put, List.setIfInBounds_toArray, List.set_cons_zero, List.set_cons_succ])
  refine wpL_skip (by rfl) ?_
  (try simp only [Act.put, List.setIfInBounds_toArray, List.set_cons_zero, List.set_cons_succ])
  refine wpL_skip (by rfl) ?_
  (try simp only [Act.put, List.setIfInBounds_toArray, List.set_cons_zero, List.set_cons_succ])
  refine wpL_skip (by rfl) ?_
  (try simp only [Act.put, List.setIfInBounds_toArray, List.set_cons_zero, List.set_cons_succ])
  refine wpL_skip (by rfl) ?_
  (try simp only [Act.put, List.setIfInBounds_toArray, List.set_cons_zero, List.set_cons_succ])
  refine wpL_val (v := .bool false) (by rfl) (by first | rfl | (go_simp; done) | (go_simp; with_reducible rfl) | (go_simp; omega)) ?_
  (try simp only [Act.put, List.setIfInBounds_toArray, List.set_cons_zero, List.set_cons_succ])
  refine wpL_val (v := .bool false) (by rfl) (by first | rfl | (go_simp; done) | (go_simp; with_reducible rfl) | (go_simp; omega)) ?_
  (try simp only [Act.put, List.setIfInBounds_toArray, List.set_cons_zero, List.set_cons_succ])
  refine wpL_nil ?_
  go_upto_region 5 with fail
  refine wp_region_lit ?_
  (refine wpL_val (v := ?_) (by rfl) ?_ ?_; rotate_left 1; (focus (go_simp; first | done | with_reducible rfl)))
  (try simp only [Act.put, List.setIfInBounds_toArray, List.set_cons_zero, List.set_cons_succ])
  (refine wpL_val (v := ?_) (by rfl) ?_ ?_; rotate_left 1; (focus (go_simp; first | done | with_reducible rfl)))
  (try simp only [Act.put, List.setIfInBounds_toArray, List.set_cons_zero, List.set_cons_succ])
  (refine wpL_val (v := ?_) (by rfl) ?_ ?_; rotate_left 1; (focus (go_simp; first | done | with_reducible rfl)))
  (try simp only [Act.put, List.setIfInBounds_toArray, List.set_cons_zero, List.set_cons_succ])
  refine wpL_get (v := .int .i64 5) (by rfl) rfl rfl k_p (by rfl) (by kernel_rfl) ?_
  (try simp only [Act.put, List.setIfInBounds_toArray, List.set_cons_zero, List.set_cons_succ])
  refine wpL_val (v := .int .i64 5) (by rfl) (by first | rfl | (go_simp; done) | (go_simp; with_reducible rfl) | (go_simp; omega)) ?_
  (try simp only [Act.put, List.setIfInBounds_toArray, List.set_cons_zero, List.set_cons_succ])
  refine wpL_nil ?_
  go_wp2
  exact bodyPost_ret (v := .int .i64 5) (by simp only [results, Try.results15]; first | (go_simp; done) | (go_simp; rfl)) rfl ⟨rfl, off0.ext⟩
theorem txt1 (a b : UInt8) (T r : List UInt8) {m : Nat} (hm : T.length = m) : List.drop 2 (List.take (2 + m) (a :: b :: (T ++ r))) = T := by
  rw [Nat.add_comm]
  show List.take m (T ++ r) = T
  rw [List.take_append_of_le_length (by omega), List.take_of_length_le (by omega)]
theorem txt2 (a b : UInt8) (T r : List UInt8) {m : Nat} (hm : T.length = m) : List.drop (2 + m) (a :: b :: (T ++ r)) = r := by
  rw [Nat.add_comm]
  show List.drop m (T ++ r) = r
  rw [List.drop_append, List.drop_eq_nil_of_le (by omega), hm]; simp
theorem or_two (m : Nat) (hm : m ≤ 65535) : bits .or .i64 (((u8 (m / 256)).toNat : Int) * 256) ((u8 m).toNat : Int) = (m : Int) := by
  have h := or8 (m / 256) (m % 256) (by omega)
  have e1 : IntKind.wrap .i64 ((m / 256 * 256 : Nat) : Int) = ((u8 (m / 256)).toNat : Int) * 256 := by rw [IntKind.wrap_i64, u8_nat]; omega
  have e2 : IntKind.wrap .i64 ((m / 256 * 256 + m % 256 : Nat) : Int) = (m : Int) := by rw [IntKind.wrap_i64]; omega
  rw [e1, e2] at h
  rw [u8_nat m]
  exact h
set_option maxRecDepth 100000 in
set_option maxHeartbeats 1500000 in
theorem rtext_ok (p m : Nat) (v : Value) (T r : List UInt8) (hm : T.length = m) (hm2 : m ≤ 65535) (most : Int) (hmost : (m : Int) ≤ most) (w : World) (hrd : Rdr w p v (u8 (m / 256) :: u8 m :: (T ++ r)) 0) (hl : (u8 (m / 256) :: u8 m :: (T ++ r)).length < 140737488000000) :
    Calls Try.prog 14 #[.pointer (some ⟨p, 0, none⟩), .int .i64 most] w fun e w' => ∃ u, e = .returned u ∧ Own w' u T ∧ Fr u.ownBlock w.heap.size [] ∧ ∃ v', RdTo w p v (u8 (m / 256) :: u8 m :: (T ++ r)) r 0 v' w' := by
  obtain ⟨adb, cb, rfl, hcell⟩ := sl_form hrd.2.1 (by simp)
  have hor := or_two m hm2
  have hlen : (u8 (m / 256) :: u8 m :: (T ++ r)).length = 2 + m + r.length := by simp; omega
  have hm0 : (0 : Int) ≤ (m : Int) := Int.natCast_nonneg _
  have hm1 : (m : Int) ≤ 65535 := by omega
  have off0 : Off [p] w w := Off.refl _ _
  have sz := off0.size
  obtain ⟨k_p, ow_b, ne_b_p⟩ := hrd
  have fb_p : Fb p w.heap.size [p] := fun _ => by simp
  go_enter Try.func14, Try.ntmps14
  go_upto_region 1 with fail
  refine wp_region_lit ?_
  (refine wpL_val (v := ?_) (by rfl) ?_ ?_; rotate_left 1; (focus (go_simp; first | done | with_reducible rfl)))
  (try simp only [Act.put, List.setIfInBounds_toArray, List.set_cons_zero, List.set_cons_succ])
  refine wpL_val (v := .bool false) (by rfl) (by first | rfl | (go_simp; done) | (go_simp; with_reducible rfl) | (go_simp; omega)) ?_
  (try simp only [Act.put, List.setIfInBounds_toArray, List.set_cons_zero, List.set_cons_succ])
  refine wpL_val (v := .bool false) (by rfl) (by first | rfl | (go_simp; done) | (go_simp; with_reducible rfl) | (go_simp; omega)) ?_
  (try simp only [Act.put, List.setIfInBounds_toArray, List.set_cons_zero, List.set_cons_succ])
  (refine wpL_val (v := ?_) (by rfl) ?_ ?_; rotate_left 1; (focus (go_simp; first | done | with_reducible rfl)))
  (try simp only [Act.put, List.setIfInBounds_toArray, List.set_cons_zero, List.set_cons_succ])
  (refine wpL_val (v := ?_) (by rfl) ?_ ?_; rotate_left 1; (focus (go_simp; first | done | with_reducible rfl)))
  (try simp only [Act.put, List.setIfInBounds_toArray, List.set_cons_zero, List.set_cons_succ])
  (refine wpL_val (v := ?_) (by rfl) ?_ ?_; rotate_left 1; (focus (go_simp; first | done | with_reducible rfl)))
  (try simp only [Act.put, List.setIfInBounds_toArray, List.set_cons_zero, List.set_cons_succ])
  refine wpL_get (v := .int .i64 0) (by rfl) rfl rfl k_p (by rfl) (by kernel_rfl) ?_
  (try simp only [Act.put, List.setIfInBounds_toArray, List.set_cons_zero, List.set_cons_succ])
  refine wpL_val (v := .bool false) (by rfl) (by first | rfl | (go_simp; done) | (go_simp; with_reducible rfl) | (go_simp; omega)) ?_
  (try simp only [Act.put, List.setIfInBounds_toArray, List.set_cons_zero, List.set_cons_succ])
  refine wpL_val (v := .bool false) (by rfl) (by first | rfl | (go_simp; done) | (go_simp; with_reducible rfl) | (go_simp; omega)) ?_
  (try simp only [Act.put, List.setIfInBounds_toArray, List.set_cons_zero, List.set_cons_succ])
  refine wpL_nil ?_
  go_upto_region 3 with fail
  refine wp_region_lit ?_
  (refine wpL_val (v := ?_) (by rfl) ?_ ?_; rotate_left 1; (focus (go_simp; first | done | with_reducible rfl)))
  (try simp only [Act.put, List.setIfInBounds_toArray, List.set_cons_zero, List.set_cons_succ])
  (refine wpL_val (v := ?_) (by rfl) ?_ ?_; rotate_left 1; (focus (go_simp; first | done | with_reducible rfl)))
  (try simp only [Act.put, List.setIfInBounds_toArray, List.set_cons_zero, List.set_cons_succ])
  (refine wpL_val (v := ?_) (by rfl) ?_ ?_; rotate_left 1; (focus (go_simp; first | done | with_reducible rfl)))
  (try simp only [Act.put, List.setIfInBounds_toArray, List.set_cons_zero, List.set_cons_succ])
  refine wpL_get (v := .slice (some adb) (u8 (m / 256) :: u8 m :: (T ++ r)).length cb) (by rfl) rfl rfl k_p (by rfl) (by kernel_rfl) ?_
  (try simp only [Act.put, List.setIfInBounds_toArray, List.set_cons_zero, List.set_cons_succ])
  refine wpL_len (l := (u8 (m / 256) :: u8 m :: (T ++ r))) ow_b (by rfl) rfl rfl ?_
  (try simp only [Act.put, List.setIfInBounds_toArray, List.set_cons_zero, List.set_cons_succ])
  refine wpL_val (v := .bool false) (by rfl) (by first | rfl | (go_simp; done) | (go_simp; with_reducible rfl) | (go_simp; omega)) ?_
  (try simp only [Act.put, List.setIfInBounds_toArray, List.set_cons_zero, List.set_cons_succ])
  refine wpL_nil ?_
  go_upto_region 6 with fail
  refine wp_region_xn 17 [] (by kernel_rfl) (fun x hx => by cases hx) (by kernel_rfl) ?_
  simp only [List.take_succ_cons, List.take_zero, List.take_nil]
  (try simp only [Act.put, List.setIfInBounds_toArray, List.set_cons_zero, List.set_cons_succ])
  (refine wpX_val (v := ?_) (by rfl) (fun W hW => ?_) ?_; rotate_left 1; (focus (go_simp; first | done | with_reducible rfl)); (try simp only [Act.put, List.setIfInBounds_toArray, List.set_cons_zero, List.set_cons_succ]))
  (refine wpX_val (v := ?_) (by rfl) (fun W hW => ?_) ?_; rotate_left 1; (focus (go_simp; first | done | with_reducible rfl)); (try simp only [Act.put, List.setIfInBounds_toArray, List.set_cons_zero, List.set_cons_succ]))
  (refine wpX_val (v := ?_) (by rfl) (fun W hW => ?_) ?_; rotate_left 1; (focus (go_simp; first | done | with_reducible rfl)); (try simp only [Act.put, List.setIfInBounds_toArray, List.set_cons_zero, List.set_cons_succ]))
  refine wpX_cell (v := .slice (some adb) (u8 (m / 256) :: u8 m :: (T ++ r)).length cb) (blk_rd k_p) (by rfl) (by rfl) rfl rfl (by kernel_rfl) ?_
  (try simp only [Act.put, List.setIfInBounds_toArray, List.set_cons_zero, List.set_cons_succ])
  (refine wpX_val (v := .pointer (some (adb.add 0))) (by rfl) (fun W hW => run_ixa (j := 0) (by omega) rfl rfl rfl) ?_)
  (try simp only [Act.put, List.setIfInBounds_toArray, List.set_cons_zero, List.set_cons_succ])
  refine wpX_at (v := .int .u8 ((u8 (m / 256)).toNat : Int)) (by rfl) rfl rfl (fun W hW => cell_ext (hcell 0 (u8 (m / 256)) rfl) hW) (by kernel_rfl) ?_
  (try simp only [Act.put, List.setIfInBounds_toArray, List.set_cons_zero, List.set_cons_succ])
  (refine wpX_val (v := .int .i64 ((u8 (m / 256)).toNat : Int)) (by rfl) (fun W hW => by have := (u8 (m / 256)).toNat_lt; go_simp; (try simp only [IntKind.wrap_i64]); (try omega)) ?_)
  (try simp only [Act.put, List.setIfInBounds_toArray, List.set_cons_zero, List.set_cons_succ])
  (refine wpX_val (v := .int .i64 (((u8 (m / 256)).toNat : Int) * 256)) (by rfl) (fun W hW => by have := (u8 (m / 256)).toNat_lt; go_simp; (try simp only [IntKind.wrap_i64]); (try omega)) ?_)
  (try simp only [Act.put, List.setIfInBounds_toArray, List.set_cons_zero, List.set_cons_succ])
  (refine wpX_val (v := ?_) (by rfl) (fun W hW => ?_) ?_; rotate_left 1; (focus (go_simp; first | done | with_reducible rfl)); (try simp only [Act.put, List.setIfInBounds_toArray, List.set_cons_zero, List.set_cons_succ]))
  (refine wpX_val (v := ?_) (by rfl) (fun W hW => ?_) ?_; rotate_left 1; (focus (go_simp; first | done | with_reducible rfl)); (try simp only [Act.put, List.setIfInBounds_toArray, List.set_cons_zero, List.set_cons_succ]))
  (refine wpX_val (v := ?_) (by rfl) (fun W hW => ?_) ?_; rotate_left 1; (focus (go_simp; first | done | with_reducible rfl)); (try simp only [Act.put, List.setIfInBounds_toArray, List.set_cons_zero, List.set_cons_succ]))
  refine wpX_cell (v := .slice (some adb) (u8 (m / 256) :: u8 m :: (T ++ r)).length cb) (blk_rd k_p) (by rfl) (by rfl) rfl rfl (by kernel_rfl) ?_
  (try simp only [Act.put, List.setIfInBounds_toArray, List.set_cons_zero, List.set_cons_succ])
  (refine wpX_val (v := .pointer (some (adb.add 1))) (by rfl) (fun W hW => run_ixa (j := 1) (by omega) rfl rfl rfl) ?_)
  (try simp only [Act.put, List.setIfInBounds_toArray, List.set_cons_zero, List.set_cons_succ])
  refine wpX_at (v := .int .u8 ((u8 m).toNat : Int)) (by rfl) rfl rfl (fun W hW => cell_ext (hcell 1 (u8 m) rfl) hW) (by kernel_rfl) ?_
  (try simp only [Act.put, List.setIfInBounds_toArray, List.set_cons_zero, List.set_cons_succ])
  (refine wpX_val (v := .int .i64 ((u8 m).toNat : Int)) (by rfl) (fun W hW => by have := (u8 m).toNat_lt; go_simp; (try simp only [IntKind.wrap_i64]); (try omega)) ?_)
  (try simp only [Act.put, List.setIfInBounds_toArray, List.set_cons_zero, List.set_cons_succ])
  (refine wpX_val (v := .int .i64 (m : Int)) (by rfl) (fun W hW => by have h8 := hor; go_simp) ?_)
  (try simp only [Act.put, List.setIfInBounds_toArray, List.set_cons_zero, List.set_cons_succ])
  (refine wpX_val (v := ?_) (by rfl) (fun W hW => ?_) ?_; rotate_left 1; (focus (go_simp; first | done | with_reducible rfl)); (try simp only [Act.put, List.setIfInBounds_toArray, List.set_cons_zero, List.set_cons_succ]))
  refine wpX_nil ?_
  intro β W1 hE hN hD
  clear hN hD
  simp only [putAll, Act.put, List.setIfInBounds_toArray, List.set_cons_zero, List.set_cons_succ, List.drop_succ_cons, List.drop_zero, List.drop_nil, List.length_nil, Nat.add_zero]
  have hO := off_ext hE
  replace k_p := blk_off k_p hO nm0
  replace ow_b := Sl.off ow_b hO f0
  replace off0 := off0.step hO i0
  replace sz := off0.size
  clear hO hE β
  refine wpL_nil ?_
  first | with_reducible refine NoPanic.normal (Q := Exit.then _ _) ?_ | with_reducible refine NoPanic.normal ?_
  go_upto_region 7 with fail
  refine wp_region_lit ?_
  (refine wpL_val (v := ?_) (by rfl) ?_ ?_; rotate_left 1; (focus (go_simp; first | done | with_reducible rfl)))
  (try simp only [Act.put, List.setIfInBounds_toArray, List.set_cons_zero, List.set_cons_succ])
  (refine wpL_val (v := ?_) (by rfl) ?_ ?_; rotate_left 1; (focus (go_simp; first | done | with_reducible rfl)))
  (try simp only [Act.put, List.setIfInBounds_toArray, List.set_cons_zero, List.set_cons_succ])
  refine wpL_val (v := .bool false) (by rfl) (by first | rfl | (go_simp; done) | (go_simp; with_reducible rfl) | (go_simp; omega)) ?_
  (try simp only [Act.put, List.setIfInBounds_toArray, List.set_cons_zero, List.set_cons_succ])
  refine wpL_val (v := .bool false) (by rfl) (by first | rfl | (go_simp; done) | (go_simp; with_reducible rfl) | (go_simp; omega)) ?_
  (try simp only [Act.put, List.setIfInBounds_toArray, List.set_cons_zero, List.set_cons_succ])
  refine wpL_nil ?_
  go_upto_region 10 with fail
  refine wp_region_lit ?_
  (refine wpL_val (v := ?_) (by rfl) ?_ ?_; rotate_left 1; (focus (go_simp; first | done | with_reducible rfl)))
  (try simp only [Act.put, List.setIfInBounds_toArray, List.set_cons_zero, List.set_cons_succ])
  (refine wpL_val (v := ?_) (by rfl) ?_ ?_; rotate_left 1; (focus (go_simp; first | done | with_reducible rfl)))
  (try simp only [Act.put, List.setIfInBounds_toArray, List.set_cons_zero, List.set_cons_succ])
  (refine wpL_val (v := ?_) (by rfl) ?_ ?_; rotate_left 1; (focus (go_simp; first | done | with_reducible rfl)))
  (try simp only [Act.put, List.setIfInBounds_toArray, List.set_cons_zero, List.set_cons_succ])
  refine wpL_get (v := .slice (some adb) (u8 (m / 256) :: u8 m :: (T ++ r)).length cb) (by rfl) rfl rfl k_p (by rfl) (by kernel_rfl) ?_
  (try simp only [Act.put, List.setIfInBounds_toArray, List.set_cons_zero, List.set_cons_succ])
  refine wpL_len (l := (u8 (m / 256) :: u8 m :: (T ++ r))) ow_b (by rfl) rfl rfl ?_
  (try simp only [Act.put, List.setIfInBounds_toArray, List.set_cons_zero, List.set_cons_succ])
  (refine wpL_val (v := ?_) (by rfl) ?_ ?_; rotate_left 1; (focus (go_simp; first | done | with_reducible rfl)))
  (try simp only [Act.put, List.setIfInBounds_toArray, List.set_cons_zero, List.set_cons_succ])
  refine wpL_val (v := .int .i64 ((2 + m : Nat) : Int)) (by rfl) (by go_simp; (try simp only [IntKind.wrap_i64]); (try omega)) ?_
  (try simp only [Act.put, List.setIfInBounds_toArray, List.set_cons_zero, List.set_cons_succ])
  refine wpL_val (v := .bool false) (by rfl) (by first | rfl | (go_simp; done) | (go_simp; with_reducible rfl) | (go_simp; omega)) ?_
  (try simp only [Act.put, List.setIfInBounds_toArray, List.set_cons_zero, List.set_cons_succ])
  refine wpL_val (v := .bool false) (by rfl) (by first | rfl | (go_simp; done) | (go_simp; with_reducible rfl) | (go_simp; omega)) ?_
  (try simp only [Act.put, List.setIfInBounds_toArray, List.set_cons_zero, List.set_cons_succ])
  refine wpL_nil ?_
  go_upto_region 13 with fail
  refine wp_region_lit ?_
  (refine wpL_val (v := ?_) (by rfl) ?_ ?_; rotate_left 1; (focus (go_simp; first | done | with_reducible rfl)))
  (try simp only [Act.put, List.setIfInBounds_toArray, List.set_cons_zero, List.set_cons_succ])
  (refine wpL_val (v := ?_) (by rfl) ?_ ?_; rotate_left 1; (focus (go_simp; first | done | with_reducible rfl)))
  (try simp only [Act.put, List.setIfInBounds_toArray, List.set_cons_zero, List.set_cons_succ])
  refine wpL_val (v := .int .i64 ((2 + m : Nat) : Int)) (by rfl) (by go_simp; (try simp only [IntKind.wrap_i64]); (try omega)) ?_
  (try simp only [Act.put, List.setIfInBounds_toArray, List.set_cons_zero, List.set_cons_succ])
  refine wpL_call (R := fun u W => Sl W u (List.take (2 + m) (u8 (m / 256) :: u8 m :: (T ++ r))) ∧ Sub u (List.take (2 + m) (u8 (m / 256) :: u8 m :: (T ++ r))) (sb (.slice (some adb) (u8 (m / 256) :: u8 m :: (T ++ r)).length cb) (u8 (m / 256) :: u8 m :: (T ++ r))) ∧ (0 < (2 + m) → ∃ ad c, u = .slice (some ad) (2 + m) c) ∧ ∃ v2, RdTo W1 p (.slice (some adb) (u8 (m / 256) :: u8 m :: (T ++ r)).length cb) (u8 (m / 256) :: u8 m :: (T ++ r)) (List.drop (2 + m) (u8 (m / 256) :: u8 m :: (T ++ r))) 0 v2 W) ((take_ok p (.slice (some adb) (u8 (m / 256) :: u8 m :: (T ++ r)).length cb) (u8 (m / 256) :: u8 m :: (T ++ r)) W1 ⟨k_p, ow_b, ne_b_p⟩ (2 + m) (by rw [hlen]; omega) (by first | omega | (rw [List.length_drop, List.length_take, hlen]; omega))).mono fun _ _ h => h) (by rfl) rfl (by kernel_rfl) rfl ?_
  (try simp only [Act.put, List.setIfInBounds_toArray, List.set_cons_zero, List.set_cons_succ])
  rintro u62_1 W2 ⟨hu, hsu, hso, v_b1, hto⟩
  (try simp only [Act.put, List.setIfInBounds_toArray, List.set_cons_zero, List.set_cons_succ])
  have hO := hto.off
  have kk := hto.rd.1
  have hv2 := hto.rd.2.1
  have hs2 := hto.sub
  clear hto
  replace ow_b := Sl.off ow_b hO (f1 ne_b_p)
  replace off0 := off0.step hO (i1 fb_p)
  replace sz := off0.size
  replace k_p := kk
  clear kk hO
  have ow_h62 := hu
  have ow_b1 := hv2
  clear hu hv2
  have ne_h62_p : sb u62_1 (List.take (2 + m) (u8 (m / 256) :: u8 m :: (T ++ r))) ≠ some p := sub_ne hsu ne_b_p
  have ne_b1_p : sb v_b1 (List.drop (2 + m) (u8 (m / 256) :: u8 m :: (T ++ r))) ≠ some p := sub_ne hs2 ne_b_p
  refine wpL_tail (n := 2) ow_h62 (by rw [List.length_take, hlen]; omega) (by rfl) rfl rfl rfl ?_
  (try simp only [Act.put, List.setIfInBounds_toArray, List.set_cons_zero, List.set_cons_succ])
  intro u63_2 ow_c63 sub_c63
  have ne_c63_p : sb u63_2 (List.drop 2 (List.take (2 + m) (u8 (m / 256) :: u8 m :: (T ++ r)))) ≠ some p := sub_ne sub_c63 ne_h62_p
  refine wpL_call (R := fun v W => NewB W2 (List.drop 2 (List.take (2 + m) (u8 (m / 256) :: u8 m :: (T ++ r)))) v W) ((clone_c ow_c63 (by first | omega | (rw [List.length_drop, List.length_take, hlen]; omega))).mono fun _ _ h => h) (by rfl) rfl (by kernel_rfl) rfl ?_
  (try simp only [Act.put, List.setIfInBounds_toArray, List.set_cons_zero, List.set_cons_succ])
  rintro v_c2 W3 hnb
  have hO := hnb.off
  have ow_c2 := hnb.own
  have at_c2 : Of (Value.ownBlock v_c2) none W2.heap.size := hnb.fr
  clear hnb
  have ne_c2_p := own_ne at_c2 (fun h => by cases h) (blk_lt k_p)
  have dj_c2_b := own_dj at_c2 (fun x h => by cases h) (Sl.lt ow_b)
  have dj_c2_h62 := own_dj at_c2 (fun x h => by cases h) (Sl.lt ow_h62)
  have dj_c2_b1 := own_dj at_c2 (fun x h => by cases h) (Sl.lt ow_b1)
  have dj_c2_c63 := own_dj at_c2 (fun x h => by cases h) (Sl.lt ow_c63)
  have fr_c2 : Fr (Value.ownBlock v_c2) w.heap.size [p] := own_fr at_c2 fr_none sz
  replace k_p := blk_off k_p hO nm0
  replace ow_b := Sl.off ow_b hO f0
  replace ow_h62 := Sl.off ow_h62 hO f0
  replace ow_b1 := Sl.off ow_b1 hO f0
  replace ow_c63 := Sl.off ow_c63 hO f0
  replace off0 := off0.step hO i0
  replace sz := off0.size
  clear hO at_c2
  (refine wpL_val (v := ?_) (by rfl) ?_ ?_; rotate_left 1; (focus (go_simp; first | done | with_reducible rfl)))
  (try simp only [Act.put, List.setIfInBounds_toArray, List.set_cons_zero, List.set_cons_succ])
  refine wpL_nil ?_
  go_wp2
  have e1 := txt1 (u8 (m / 256)) (u8 m) T r hm
  have e2 := txt2 (u8 (m / 256)) (u8 m) T r hm
  rw [e1] at ow_c2
  rw [e2] at ow_b1 hs2 ne_b1_p
  exact bodyPost_ret (v := v_c2) (by simp only [results, Try.results14]; go_simp) rfl ⟨_, rfl, ow_c2, fr_cons fr_c2 ne_c2_p, _, ⟨k_p, ow_b1, ne_b1_p⟩, hs2, off0⟩
set_option maxRecDepth 100000 in
set_option maxHeartbeats 1500000 in
theorem rtext_big (p m : Nat) (v : Value) (T r : List UInt8) (hm : T.length = m) (hm2 : m ≤ 65535) (most : Int) (hmost : most < (m : Int)) (w : World) (hrd : Rdr w p v (u8 (m / 256) :: u8 m :: (T ++ r)) 0) (hl : (u8 (m / 256) :: u8 m :: (T ++ r)).length < 140737488000000) :
    Calls Try.prog 14 #[.pointer (some ⟨p, 0, none⟩), .int .i64 most] w fun e w' => e = .returned (.slice none 0 0) ∧ Rdr w' p v (u8 (m / 256) :: u8 m :: (T ++ r)) 5 ∧ Off [p] w w' := by
  obtain ⟨adb, cb, rfl, hcell⟩ := sl_form hrd.2.1 (by simp)
  have hor := or_two m hm2
  have hlen : (u8 (m / 256) :: u8 m :: (T ++ r)).length = 2 + m + r.length := by simp; omega
  have hm0 : (0 : Int) ≤ (m : Int) := Int.natCast_nonneg _
  have hm1 : (m : Int) ≤ 65535 := by omega
  have off0 : Off [p] w w := Off.refl _ _
  have sz := off0.size
  obtain ⟨k_p, ow_b, ne_b_p⟩ := hrd
  have fb_p : Fb p w.heap.size [p] := fun _ => by simp
  go_enter Try.func14, Try.ntmps14
  go_upto_region 1 with fail
  refine wp_region_lit ?_
  (refine wpL_val (v := ?_) (by rfl) ?_ ?_; rotate_left 1; (focus (go_simp; first | done | with_reducible rfl)))
  (try simp only [Act.put, List.setIfInBounds_toArray, List.set_cons_zero, List.set_cons_succ])
  refine wpL_val (v := .bool false) (by rfl) (by first | rfl | (go_simp; done) | (go_simp; with_reducible rfl) | (go_simp; omega)) ?_
  (try simp only [Act.put, List.setIfInBounds_toArray, List.set_cons_zero, List.set_cons_succ])
  refine wpL_val (v := .bool false) (by rfl) (by first | rfl | (go_simp; done) | (go_simp; with_reducible rfl) | (go_simp; omega)) ?_
  (try simp only [Act.put, List.setIfInBounds_toArray, List.set_cons_zero, List.set_cons_succ])
  (refine wpL_val (v := ?_) (by rfl) ?_ ?_; rotate_left 1; (focus (go_simp; first | done | with_reducible rfl)))
  (try simp only [Act.put, List.setIfInBounds_toArray, List.set_cons_zero, List.set_cons_succ])
  (refine wpL_val (v := ?_) (by rfl) ?_ ?_; rotate_left 1; (focus (go_simp; first | done | with_reducible rfl)))
  (try simp only [Act.put, List.setIfInBounds_toArray, List.set_cons_zero, List.set_cons_succ])
  (refine wpL_val (v := ?_) (by rfl) ?_ ?_; rotate_left 1; (focus (go_simp; first | done | with_reducible rfl)))
  (try simp only [Act.put, List.setIfInBounds_toArray, List.set_cons_zero, List.set_cons_succ])
  refine wpL_get (v := .int .i64 0) (by rfl) rfl rfl k_p (by rfl) (by kernel_rfl) ?_
  (try simp only [Act.put, List.setIfInBounds_toArray, List.set_cons_zero, List.set_cons_succ])
  refine wpL_val (v := .bool false) (by rfl) (by first | rfl | (go_simp; done) | (go_simp; with_reducible rfl) | (go_simp; omega)) ?_
  (try simp only [Act.put, List.setIfInBounds_toArray, List.set_cons_zero, List.set_cons_succ])
  refine wpL_val (v := .bool false) (by rfl) (by first | rfl | (go_simp; done) | (go_simp; with_reducible rfl) | (go_simp; omega)) ?_
  (try simp only [Act.put, List.setIfInBounds_toArray, List.set_cons_zero, List.set_cons_succ])
  refine wpL_nil ?_
  go_upto_region 3 with fail
  refine wp_region_lit ?_
  (refine wpL_val (v := ?_) (by rfl) ?_ ?_; rotate_left 1; (focus (go_simp; first | done | with_reducible rfl)))
  (try simp only [Act.put, List.setIfInBounds_toArray, List.set_cons_zero, List.set_cons_succ])
  (refine wpL_val (v := ?_) (by rfl) ?_ ?_; rotate_left 1; (focus (go_simp; first | done | with_reducible rfl)))
  (try simp only [Act.put, List.setIfInBounds_toArray, List.set_cons_zero, List.set_cons_succ])
  (refine wpL_val (v := ?_) (by rfl) ?_ ?_; rotate_left 1; (focus (go_simp; first | done | with_reducible rfl)))
  (try simp only [Act.put, List.setIfInBounds_toArray, List.set_cons_zero, List.set_cons_succ])
  refine wpL_get (v := .slice (some adb) (u8 (m / 256) :: u8 m :: (T ++ r)).length cb) (by rfl) rfl rfl k_p (by rfl) (by kernel_rfl) ?_
  (try simp only [Act.put, List.setIfInBounds_toArray, List.set_cons_zero, List.set_cons_succ])
  refine wpL_len (l := (u8 (m / 256) :: u8 m :: (T ++ r))) ow_b (by rfl) rfl rfl ?_
  (try simp only [Act.put, List.setIfInBounds_toArray, List.set_cons_zero, List.set_cons_succ])
  refine wpL_val (v := .bool false) (by rfl) (by first | rfl | (go_simp; done) | (go_simp; with_reducible rfl) | (go_simp; omega)) ?_
  (try simp only [Act.put, List.setIfInBounds_toArray, List.set_cons_zero, List.set_cons_succ])
  refine wpL_nil ?_
  go_upto_region 6 with fail
  refine wp_region_xn 17 [] (by kernel_rfl) (fun x hx => by cases hx) (by kernel_rfl) ?_
  simp only [List.take_succ_cons, List.take_zero, List.take_nil]
  (try simp only [Act.put, List.setIfInBounds_toArray, List.set_cons_zero, List.set_cons_succ])
  (refine wpX_val (v := ?_) (by rfl) (fun W hW => ?_) ?_; rotate_left 1; (focus (go_simp; first | done | with_reducible rfl)); (try simp only [Act.put, List.setIfInBounds_toArray, List.set_cons_zero, List.set_cons_succ]))
  (refine wpX_val (v := ?_) (by rfl) (fun W hW => ?_) ?_; rotate_left 1; (focus (go_simp; first | done | with_reducible rfl)); (try simp only [Act.put, List.setIfInBounds_toArray, List.set_cons_zero, List.set_cons_succ]))
  (refine wpX_val (v := ?_) (by rfl) (fun W hW => ?_) ?_; rotate_left 1; (focus (go_simp; first | done | with_reducible rfl)); (try simp only [Act.put, List.setIfInBounds_toArray, List.set_cons_zero, List.set_cons_succ]))
  refine wpX_cell (v := .slice (some adb) (u8 (m / 256) :: u8 m :: (T ++ r)).length cb) (blk_rd k_p) (by rfl) (by rfl) rfl rfl (by kernel_rfl) ?_
  (try simp only [Act.put, List.setIfInBounds_toArray, List.set_cons_zero, List.set_cons_succ])
  (refine wpX_val (v := .pointer (some (adb.add 0))) (by rfl) (fun W hW => run_ixa (j := 0) (by omega) rfl rfl rfl) ?_)
  (try simp only [Act.put, List.setIfInBounds_toArray, List.set_cons_zero, List.set_cons_succ])
  refine wpX_at (v := .int .u8 ((u8 (m / 256)).toNat : Int)) (by rfl) rfl rfl (fun W hW => cell_ext (hcell 0 (u8 (m / 256)) rfl) hW) (by kernel_rfl) ?_
  (try simp only [Act.put, List.setIfInBounds_toArray, List.set_cons_zero, List.set_cons_succ])
  (refine wpX_val (v := .int .i64 ((u8 (m / 256)).toNat : Int)) (by rfl) (fun W hW => by have := (u8 (m / 256)).toNat_lt; go_simp; (try simp only [IntKind.wrap_i64]); (try omega)) ?_)
  (try simp only [Act.put, List.setIfInBounds_toArray, List.set_cons_zero, List.set_cons_succ])
  (refine wpX_val (v := .int .i64 (((u8 (m / 256)).toNat : Int) * 256)) (by rfl) (fun W hW => by have := (u8 (m / 256)).toNat_lt; go_simp; (try simp only [IntKind.wrap_i64]); (try omega)) ?_)
  (try simp only [Act.put, List.setIfInBounds_toArray, List.set_cons_zero, List.set_cons_succ])
  (refine wpX_val (v := ?_) (by rfl) (fun W hW => ?_) ?_; rotate_left 1; (focus (go_simp; first | done | with_reducible rfl)); (try simp only [Act.put, List.setIfInBounds_toArray, List.set_cons_zero, List.set_cons_succ]))
  (refine wpX_val (v := ?_) (by rfl) (fun W hW => ?_) ?_; rotate_left 1; (focus (go_simp; first | done | with_reducible rfl)); (try simp only [Act.put, List.setIfInBounds_toArray, List.set_cons_zero, List.set_cons_succ]))
  (refine wpX_val (v := ?_) (by rfl) (fun W hW => ?_) ?_; rotate_left 1; (focus (go_simp; first | done | with_reducible rfl)); (try simp only [Act.put, List.setIfInBounds_toArray, List.set_cons_zero, List.set_cons_succ]))
  refine wpX_cell (v := .slice (some adb) (u8 (m / 256) :: u8 m :: (T ++ r)).length cb) (blk_rd k_p) (by rfl) (by rfl) rfl rfl (by kernel_rfl) ?_
  (try simp only [Act.put, List.setIfInBounds_toArray, List.set_cons_zero, List.set_cons_succ])
  (refine wpX_val (v := .pointer (some (adb.add 1))) (by rfl) (fun W hW => run_ixa (j := 1) (by omega) rfl rfl rfl) ?_)
  (try simp only [Act.put, List.setIfInBounds_toArray, List.set_cons_zero, List.set_cons_succ])
  refine wpX_at (v := .int .u8 ((u8 m).toNat : Int)) (by rfl) rfl rfl (fun W hW => cell_ext (hcell 1 (u8 m) rfl) hW) (by kernel_rfl) ?_
  (try simp only [Act.put, List.setIfInBounds_toArray, List.set_cons_zero, List.set_cons_succ])
  (refine wpX_val (v := .int .i64 ((u8 m).toNat : Int)) (by rfl) (fun W hW => by have := (u8 m).toNat_lt; go_simp; (try simp only [IntKind.wrap_i64]); (try omega)) ?_)
  (try simp only [Act.put, List.setIfInBounds_toArray, List.set_cons_zero, List.set_cons_succ])
  (refine wpX_val (v := .int .i64 (m : Int)) (by rfl) (fun W hW => by have h8 := hor; go_simp) ?_)
  (try simp only [Act.put, List.setIfInBounds_toArray, List.set_cons_zero, List.set_cons_succ])
  (refine wpX_val (v := ?_) (by rfl) (fun W hW => ?_) ?_; rotate_left 1; (focus (go_simp; first | done | with_reducible rfl)); (try simp only [Act.put, List.setIfInBounds_toArray, List.set_cons_zero, List.set_cons_succ]))
  refine wpX_nil ?_
  intro β W1 hE hN hD
  clear hN hD
  simp only [putAll, Act.put, List.setIfInBounds_toArray, List.set_cons_zero, List.set_cons_succ, List.drop_succ_cons, List.drop_zero, List.drop_nil, List.length_nil, Nat.add_zero]
  have hO := off_ext hE
  replace k_p := blk_off k_p hO nm0
  replace ow_b := Sl.off ow_b hO f0
  replace off0 := off0.step hO i0
  replace sz := off0.size
  clear hO hE β
  refine wpL_nil ?_
  first | with_reducible refine NoPanic.normal (Q := Exit.then _ _) ?_ | with_reducible refine NoPanic.normal ?_
  go_upto_region 7 with fail
  refine wp_region_lit ?_
  (refine wpL_val (v := ?_) (by rfl) ?_ ?_; rotate_left 1; (focus (go_simp; first | done | with_reducible rfl)))
  (try simp only [Act.put, List.setIfInBounds_toArray, List.set_cons_zero, List.set_cons_succ])
  (refine wpL_val (v := ?_) (by rfl) ?_ ?_; rotate_left 1; (focus (go_simp; first | done | with_reducible rfl)))
  (try simp only [Act.put, List.setIfInBounds_toArray, List.set_cons_zero, List.set_cons_succ])
  refine wpL_val (v := .bool true) (by rfl) (by first | rfl | (go_simp; done) | (go_simp; with_reducible rfl) | (go_simp; omega)) ?_
  (try simp only [Act.put, List.setIfInBounds_toArray, List.set_cons_zero, List.set_cons_succ])
  refine wpL_val (v := .bool true) (by rfl) (by first | rfl | (go_simp; done) | (go_simp; with_reducible rfl) | (go_simp; omega)) ?_
  (try simp only [Act.put, List.setIfInBounds_toArray, List.set_cons_zero, List.set_cons_succ])
  refine wpL_nil ?_
  go_upto_region 8 with fail
  refine wp_region_lit ?_
  (refine wpL_val (v := ?_) (by rfl) ?_ ?_; rotate_left 1; (focus (go_simp; first | done | with_reducible rfl)))
  (try simp only [Act.put, List.setIfInBounds_toArray, List.set_cons_zero, List.set_cons_succ])
  (refine wpL_val (v := ?_) (by rfl) ?_ ?_; rotate_left 1; (focus (go_simp; first | done | with_reducible rfl)))
  (try simp only [Act.put, List.setIfInBounds_toArray, List.set_cons_zero, List.set_cons_succ])
  (refine wpL_val (v := ?_) (by rfl) ?_ ?_; rotate_left 1; (focus (go_simp; first | done | with_reducible rfl)))
  (try simp only [Act.put, List.setIfInBounds_toArray, List.set_cons_zero, List.set_cons_succ])
  refine wpL_put1 (v := .int .i64 5) ⟨rfl, rfl⟩ (by rfl) rfl rfl rfl k_p (by show 1 < 2; decide) (by kernel_rfl) ?_
  (try simp only [Act.put, List.setIfInBounds_toArray, List.set_cons_zero, List.set_cons_succ])
  intro W2 hO h_
  replace k_p : Blk W2 p #[.slice (some adb) (u8 (m / 256) :: u8 m :: (T ++ r)).length cb, .int .i64 5] 57 := h_
  clear h_
  replace ow_b := Sl.off ow_b hO (f1 ne_b_p)
  replace off0 := off0.step hO (i1 fb_p)
  replace sz := off0.size
  clear hO
  refine wpL_nil ?_
  go_wp2
  exact bodyPost_ret (v := .slice none 0 0) (by simp only [results, Try.results14]; go_simp) rfl ⟨rfl, ⟨k_p, ow_b, ne_b_p⟩, off0⟩
set_option maxRecDepth 100000 in
set_option maxHeartbeats 1500000 in
theorem read_c (u : Value) (l : List UInt8) (w : World) (hs : Sl w u l) (hl : l.length ≤ 140737488355328) :
    Calls Try.prog 13 #[u] w fun e w' => ∃ p, e = .returned (.pointer (some ⟨p, 0, none⟩)) ∧ ∃ v, Rdr w' p v l 0 ∧ Off [] w w' ∧ Fb p w.heap.size [] ∧ Fr v.ownBlock w.heap.size [] := by
  have off0 : Off [] w w := Off.refl _ _
  have sz := off0.size
  have ow_a := hs
  go_enter Try.func13, Try.ntmps13
  go_upto_region 1 with fail
  refine wp_region_lit ?_
  (refine wpL_val (v := ?_) (by rfl) ?_ ?_; rotate_left 1; (focus (go_simp; first | done | with_reducible rfl)))
  (try simp only [Act.put, List.setIfInBounds_toArray, List.set_cons_zero, List.set_cons_succ])
  refine wpL_call (R := fun v W => NewB w l v W) ((clone_c ow_a (by first | omega | (simp only [List.length_append, List.length_cons, List.length_nil]; omega))).mono fun _ _ h => h) (by rfl) rfl (by kernel_rfl) rfl ?_
  (try simp only [Act.put, List.setIfInBounds_toArray, List.set_cons_zero, List.set_cons_succ])
  rintro v_c1 W1 hnb
  have hO := hnb.off
  have ow_c1 := hnb.own
  have at_c1 : Of (Value.ownBlock v_c1) none w.heap.size := hnb.fr
  clear hnb
  have dj_c1_a := own_dj at_c1 (fun x h => by cases h) (Sl.lt ow_a)
  have fr_c1 : Fr (Value.ownBlock v_c1) w.heap.size [] := own_fr at_c1 fr_none sz
  replace ow_a := Sl.off ow_a hO f0
  replace off0 := off0.step hO i0
  replace sz := off0.size
  clear hO at_c1
  obtain ⟨A5, c5, hv5, _⟩ := Own.len ow_c1
  subst hv5
  refine wpL_val (v := .agg #[.slice A5 l.length c5, .int .i64 0]) (by rfl) (by first | rfl | (go_simp; done) | (go_simp; rfl)) ?_
  (try simp only [Act.put, List.setIfInBounds_toArray, List.set_cons_zero, List.set_cons_succ])
  refine wpL_new (z := #[.slice A5 l.length c5, .int .i64 0]) (t := 57) (by rfl) (by first | kernel_rfl | (go_simp; done) | (go_simp; rfl)) ?_
  (try simp only [Act.put, List.setIfInBounds_toArray, List.set_cons_zero, List.set_cons_succ])
  intro p6_2 W2 n_t6 hO h_
  have ne_a_t6 := ne_new (Sl.lt ow_a) n_t6
  have ne_c1_t6 := ne_new (Own.lt ow_c1) n_t6
  have fb_t6 : Fb p6_2 w.heap.size [] := fb_new (Nat.le_trans sz n_t6)
  replace ow_a := Sl.off ow_a hO f0
  replace ow_c1 := Own.off ow_c1 hO f0
  replace off0 := off0.step hO i0
  replace sz := off0.size
  have k_t6 := h_
  clear hO h_ n_t6
  (refine wpL_val (v := ?_) (by rfl) ?_ ?_; rotate_left 1; (focus (go_simp; first | done | with_reducible rfl)))
  (try simp only [Act.put, List.setIfInBounds_toArray, List.set_cons_zero, List.set_cons_succ])
  refine wpL_nil ?_
  go_wp2
  exact bodyPost_ret (v := .pointer (some ⟨p6_2, 0, none⟩)) (by simp only [results, Try.results13]; go_simp) rfl ⟨_, rfl, _, ⟨k_t6, Own.sl ow_c1, ne_sb ne_c1_t6⟩, off0, fb_t6, fr_c1⟩
end Go.Proofs.Yteniajdmmffamaa
