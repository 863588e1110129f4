/- The document's answer for a part's bytes: One, Eight, Text. No conditions but that memory holds what is written. -/
import Derived.Test.YteniajdmmffamaaCdB
namespace Go.Proofs.Yteniajdmmffamaa
set_option linter.unusedSimpArgs false
set_option linter.unusedVariables false
open Go.RowKit

set_option maxHeartbeats 4000000 in
theorem one_c (n : Nat) (w : World) :
    Calls Try.prog 22 #[.int .i64 (n : Int)] w fun e w' => Ret (str [u8 n]) w w' e := by
  have off0 : Off [] w w := Off.refl _ _
  have sz := off0.size
  go_enter Try.func22, Try.ntmps22
  go_upto_region 1 with fail
  refine wp_region_lit ?_
  (refine wpL_val (v := ?_) (by rfl) ?_ ?_; rotate_left 1; (focus (go_simp; first | done | with_reducible rfl)))
  (try simp only [Act.put, List.setIfInBounds_toArray, List.set_cons_zero, List.set_cons_succ])
  refine wpL_val (v := .int .u8 ((u8 n).toNat : Int)) (by rfl) (by go_simp; (try simp only [u8_cast, IntKind.wrap_u8]); (try omega)) ?_
  (try simp only [Act.put, List.setIfInBounds_toArray, List.set_cons_zero, List.set_cons_succ])
  refine wpL_newS (z := #[.int .u8 ((u8 n).toNat : Int)]) (t := 5) (n := 1) (c := 1) (by rfl) (by first | kernel_rfl | (go_simp; done) | (go_simp; rfl)) ?_
  (try simp only [Act.put, List.setIfInBounds_toArray, List.set_cons_zero, List.set_cons_succ])
  intro p5_1 W1 n_s5 hO h_
  have fr_s5 : Fr (Value.ownBlock (.slice (some ⟨p5_1, 0, none⟩) 1 1)) w.heap.size [] := fr_new (Nat.le_trans sz n_s5)
  replace off0 := off0.step hO i0
  replace sz := off0.size
  have ow_s5 : Own W1 (.slice (some ⟨p5_1, 0, none⟩) 1 1) [u8 n] := own_blk h_ (by rfl) (by show 1 ≤ maxLen; decide)
  clear hO h_ n_s5
  refine wpL_str (l := [u8 n]) (Own.sl ow_s5) (by rfl) rfl rfl ?_
  (try simp only [Act.put, List.setIfInBounds_toArray, List.set_cons_zero, List.set_cons_succ])
  (refine wpL_val (v := ?_) (by rfl) ?_ ?_; rotate_left 1; (focus (go_simp; first | done | with_reducible rfl)))
  (try simp only [Act.put, List.setIfInBounds_toArray, List.set_cons_zero, List.set_cons_succ])
  refine wpL_nil ?_
  go_wp2
  exact bodyPost_ret (v := str [u8 n]) (by simp only [results, Try.results22]; go_simp) rfl ⟨rfl, off0.ext⟩
set_option maxHeartbeats 4000000 in
theorem eight_c (n : Int) (X : Nat) (hx : n % 18446744073709551616 = (X : Int)) (w : World) :
    Calls Try.prog 23 #[.int .i64 n] w fun e w' => Ret (str (be8 X)) w w' e := by
  have hx2 : IntKind.wrap .u64 n = (X : Int) := by rw [IntKind.wrap_u64]; exact hx
  have x0 : (0 : Int) ≤ (X : Int) := Int.natCast_nonneg _
  have x1 : (X : Int) < 18446744073709551616 := by omega
  have off0 : Off [] w w := Off.refl _ _
  have sz := off0.size
  go_enter Try.func23, Try.ntmps23
  go_wp2_with fail
  refine wp_loop_rounds 9 ?_
  rw [rounds_succ]
  go_upto_region 5 with fail
  refine wp_region_lit ?_
  (refine wpL_val (v := ?_) (by rfl) ?_ ?_; rotate_left 1; (focus (go_simp; first | done | with_reducible rfl)))
  (try simp only [Act.put, List.setIfInBounds_toArray, List.set_cons_zero, List.set_cons_succ])
  (refine wpL_val (v := ?_) (by rfl) ?_ ?_; rotate_left 1; (focus (go_simp; first | done | with_reducible rfl)))
  (try simp only [Act.put, List.setIfInBounds_toArray, List.set_cons_zero, List.set_cons_succ])
  refine wpL_val (v := .int .u64 (X : Int)) (by rfl) (by go_simp; (try simp only [hx2])) ?_
  (try simp only [Act.put, List.setIfInBounds_toArray, List.set_cons_zero, List.set_cons_succ])
  refine wpL_val (v := .int .i64 56) (by rfl) (by first | rfl | (go_simp; done) | (go_simp; with_reducible rfl) | (go_simp; omega)) ?_
  (try simp only [Act.put, List.setIfInBounds_toArray, List.set_cons_zero, List.set_cons_succ])
  (refine wpL_val (v := ?_) (by rfl) ?_ ?_; rotate_left 1; (focus (go_simp; first | done | with_reducible rfl)))
  (try simp only [Act.put, List.setIfInBounds_toArray, List.set_cons_zero, List.set_cons_succ])
  refine wpL_val (v := .int .u8 ((u8 (X / 72057594037927936)).toNat : Int)) (by rfl) (by go_simp; (try simp only [u8_cast, IntKind.wrap_u8]); (try omega)) ?_
  (try simp only [Act.put, List.setIfInBounds_toArray, List.set_cons_zero, List.set_cons_succ])
  refine wpL_newS (z := #[.int .u8 ((u8 (X / 72057594037927936)).toNat : Int)]) (t := 5) (n := 1) (c := 1) (by rfl) (by first | kernel_rfl | (go_simp; done) | (go_simp; rfl)) ?_
  (try simp only [Act.put, List.setIfInBounds_toArray, List.set_cons_zero, List.set_cons_succ])
  intro p15_1 W1 n_s15 hO h_
  have fr_s15 : Fr (Value.ownBlock (.slice (some ⟨p15_1, 0, none⟩) 1 1)) w.heap.size [] := fr_new (Nat.le_trans sz n_s15)
  replace off0 := off0.step hO i0
  replace sz := off0.size
  have ow_s15 : Own W1 (.slice (some ⟨p15_1, 0, none⟩) 1 1) [u8 (X / 72057594037927936)] := own_blk h_ (by rfl) (by show 1 ≤ maxLen; decide)
  clear hO h_ n_s15
  refine wpL_str (l := [u8 (X / 72057594037927936)]) (Own.sl ow_s15) (by rfl) rfl rfl ?_
  (try simp only [Act.put, List.setIfInBounds_toArray, List.set_cons_zero, List.set_cons_succ])
  refine wpL_cat (l := []) (m := [u8 (X / 72057594037927936)]) (by first | omega | (simp only [List.length_append, List.length_cons, List.length_nil]; omega)) (by rfl) rfl rfl rfl ?_
  (try simp only [Act.put, List.setIfInBounds_toArray, List.set_cons_zero, List.set_cons_succ])
  (refine wpL_val (v := ?_) (by rfl) ?_ ?_; rotate_left 1; (focus (go_simp; first | done | with_reducible rfl)))
  (try simp only [Act.put, List.setIfInBounds_toArray, List.set_cons_zero, List.set_cons_succ])
  refine wpL_nil ?_
  go_wp2_with fail
  rw [rounds_succ]
  go_upto_region 5 with fail
  refine wp_region_lit ?_
  (refine wpL_val (v := ?_) (by rfl) ?_ ?_; rotate_left 1; (focus (go_simp; first | done | with_reducible rfl)))
  (try simp only [Act.put, List.setIfInBounds_toArray, List.set_cons_zero, List.set_cons_succ])
  (refine wpL_val (v := ?_) (by rfl) ?_ ?_; rotate_left 1; (focus (go_simp; first | done | with_reducible rfl)))
  (try simp only [Act.put, List.setIfInBounds_toArray, List.set_cons_zero, List.set_cons_succ])
  refine wpL_val (v := .int .u64 (X : Int)) (by rfl) (by go_simp; (try simp only [hx2])) ?_
  (try simp only [Act.put, List.setIfInBounds_toArray, List.set_cons_zero, List.set_cons_succ])
  refine wpL_val (v := .int .i64 48) (by rfl) (by first | rfl | (go_simp; done) | (go_simp; with_reducible rfl) | (go_simp; omega)) ?_
  (try simp only [Act.put, List.setIfInBounds_toArray, List.set_cons_zero, List.set_cons_succ])
  (refine wpL_val (v := ?_) (by rfl) ?_ ?_; rotate_left 1; (focus (go_simp; first | done | with_reducible rfl)))
  (try simp only [Act.put, List.setIfInBounds_toArray, List.set_cons_zero, List.set_cons_succ])
  refine wpL_val (v := .int .u8 ((u8 (X / 281474976710656)).toNat : Int)) (by rfl) (by go_simp; (try simp only [u8_cast, IntKind.wrap_u8]); (try omega)) ?_
  (try simp only [Act.put, List.setIfInBounds_toArray, List.set_cons_zero, List.set_cons_succ])
  clear ow_s15 fr_s15
  refine wpL_newS (z := #[.int .u8 ((u8 (X / 281474976710656)).toNat : Int)]) (t := 5) (n := 1) (c := 1) (by rfl) (by first | kernel_rfl | (go_simp; done) | (go_simp; rfl)) ?_
  (try simp only [Act.put, List.setIfInBounds_toArray, List.set_cons_zero, List.set_cons_succ])
  intro p15_2 W2 n_s15 hO h_
  have fr_s15 : Fr (Value.ownBlock (.slice (some ⟨p15_2, 0, none⟩) 1 1)) w.heap.size [] := fr_new (Nat.le_trans sz n_s15)
  replace off0 := off0.step hO i0
  replace sz := off0.size
  have ow_s15 : Own W2 (.slice (some ⟨p15_2, 0, none⟩) 1 1) [u8 (X / 281474976710656)] := own_blk h_ (by rfl) (by show 1 ≤ maxLen; decide)
  clear hO h_ n_s15
  refine wpL_str (l := [u8 (X / 281474976710656)]) (Own.sl ow_s15) (by rfl) rfl rfl ?_
  (try simp only [Act.put, List.setIfInBounds_toArray, List.set_cons_zero, List.set_cons_succ])
  refine wpL_cat (l := ([] ++ [u8 (X / 72057594037927936)])) (m := [u8 (X / 281474976710656)]) (by first | omega | (simp only [List.length_append, List.length_cons, List.length_nil]; omega)) (by rfl) rfl rfl rfl ?_
  (try simp only [Act.put, List.setIfInBounds_toArray, List.set_cons_zero, List.set_cons_succ])
  (refine wpL_val (v := ?_) (by rfl) ?_ ?_; rotate_left 1; (focus (go_simp; first | done | with_reducible rfl)))
  (try simp only [Act.put, List.setIfInBounds_toArray, List.set_cons_zero, List.set_cons_succ])
  refine wpL_nil ?_
  go_wp2_with fail
  rw [rounds_succ]
  go_upto_region 5 with fail
  refine wp_region_lit ?_
  (refine wpL_val (v := ?_) (by rfl) ?_ ?_; rotate_left 1; (focus (go_simp; first | done | with_reducible rfl)))
  (try simp only [Act.put, List.setIfInBounds_toArray, List.set_cons_zero, List.set_cons_succ])
  (refine wpL_val (v := ?_) (by rfl) ?_ ?_; rotate_left 1; (focus (go_simp; first | done | with_reducible rfl)))
  (try simp only [Act.put, List.setIfInBounds_toArray, List.set_cons_zero, List.set_cons_succ])
  refine wpL_val (v := .int .u64 (X : Int)) (by rfl) (by go_simp; (try simp only [hx2])) ?_
  (try simp only [Act.put, List.setIfInBounds_toArray, List.set_cons_zero, List.set_cons_succ])
  refine wpL_val (v := .int .i64 40) (by rfl) (by first | rfl | (go_simp; done) | (go_simp; with_reducible rfl) | (go_simp; omega)) ?_
  (try simp only [Act.put, List.setIfInBounds_toArray, List.set_cons_zero, List.set_cons_succ])
  (refine wpL_val (v := ?_) (by rfl) ?_ ?_; rotate_left 1; (focus (go_simp; first | done | with_reducible rfl)))
  (try simp only [Act.put, List.setIfInBounds_toArray, List.set_cons_zero, List.set_cons_succ])
  refine wpL_val (v := .int .u8 ((u8 (X / 1099511627776)).toNat : Int)) (by rfl) (by go_simp; (try simp only [u8_cast, IntKind.wrap_u8]); (try omega)) ?_
  (try simp only [Act.put, List.setIfInBounds_toArray, List.set_cons_zero, List.set_cons_succ])
  clear ow_s15 fr_s15
  refine wpL_newS (z := #[.int .u8 ((u8 (X / 1099511627776)).toNat : Int)]) (t := 5) (n := 1) (c := 1) (by rfl) (by first | kernel_rfl | (go_simp; done) | (go_simp; rfl)) ?_
  (try simp only [Act.put, List.setIfInBounds_toArray, List.set_cons_zero, List.set_cons_succ])
  intro p15_3 W3 n_s15 hO h_
  have fr_s15 : Fr (Value.ownBlock (.slice (some ⟨p15_3, 0, none⟩) 1 1)) w.heap.size [] := fr_new (Nat.le_trans sz n_s15)
  replace off0 := off0.step hO i0
  replace sz := off0.size
  have ow_s15 : Own W3 (.slice (some ⟨p15_3, 0, none⟩) 1 1) [u8 (X / 1099511627776)] := own_blk h_ (by rfl) (by show 1 ≤ maxLen; decide)
  clear hO h_ n_s15
  refine wpL_str (l := [u8 (X / 1099511627776)]) (Own.sl ow_s15) (by rfl) rfl rfl ?_
  (try simp only [Act.put, List.setIfInBounds_toArray, List.set_cons_zero, List.set_cons_succ])
  refine wpL_cat (l := (([] ++ [u8 (X / 72057594037927936)]) ++ [u8 (X / 281474976710656)])) (m := [u8 (X / 1099511627776)]) (by first | omega | (simp only [List.length_append, List.length_cons, List.length_nil]; omega)) (by rfl) rfl rfl rfl ?_
  (try simp only [Act.put, List.setIfInBounds_toArray, List.set_cons_zero, List.set_cons_succ])
  (refine wpL_val (v := ?_) (by rfl) ?_ ?_; rotate_left 1; (focus (go_simp; first | done | with_reducible rfl)))
  (try simp only [Act.put, List.setIfInBounds_toArray, List.set_cons_zero, List.set_cons_succ])
  refine wpL_nil ?_
  go_wp2_with fail
  rw [rounds_succ]
  go_upto_region 5 with fail
  refine wp_region_lit ?_
  (refine wpL_val (v := ?_) (by rfl) ?_ ?_; rotate_left 1; (focus (go_simp; first | done | with_reducible rfl)))
  (try simp only [Act.put, List.setIfInBounds_toArray, List.set_cons_zero, List.set_cons_succ])
  (refine wpL_val (v := ?_) (by rfl) ?_ ?_; rotate_left 1; (focus (go_simp; first | done | with_reducible rfl)))
  (try simp only [Act.put, List.setIfInBounds_toArray, List.set_cons_zero, List.set_cons_succ])
  refine wpL_val (v := .int .u64 (X : Int)) (by rfl) (by go_simp; (try simp only [hx2])) ?_
  (try simp only [Act.put, List.setIfInBounds_toArray, List.set_cons_zero, List.set_cons_succ])
  refine wpL_val (v := .int .i64 32) (by rfl) (by first | rfl | (go_simp; done) | (go_simp; with_reducible rfl) | (go_simp; omega)) ?_
  (try simp only [Act.put, List.setIfInBounds_toArray, List.set_cons_zero, List.set_cons_succ])
  (refine wpL_val (v := ?_) (by rfl) ?_ ?_; rotate_left 1; (focus (go_simp; first | done | with_reducible rfl)))
  (try simp only [Act.put, List.setIfInBounds_toArray, List.set_cons_zero, List.set_cons_succ])
  refine wpL_val (v := .int .u8 ((u8 (X / 4294967296)).toNat : Int)) (by rfl) (by go_simp; (try simp only [u8_cast, IntKind.wrap_u8]); (try omega)) ?_
  (try simp only [Act.put, List.setIfInBounds_toArray, List.set_cons_zero, List.set_cons_succ])
  clear ow_s15 fr_s15
  refine wpL_newS (z := #[.int .u8 ((u8 (X / 4294967296)).toNat : Int)]) (t := 5) (n := 1) (c := 1) (by rfl) (by first | kernel_rfl | (go_simp; done) | (go_simp; rfl)) ?_
  (try simp only [Act.put, List.setIfInBounds_toArray, List.set_cons_zero, List.set_cons_succ])
  intro p15_4 W4 n_s15 hO h_
  have fr_s15 : Fr (Value.ownBlock (.slice (some ⟨p15_4, 0, none⟩) 1 1)) w.heap.size [] := fr_new (Nat.le_trans sz n_s15)
  replace off0 := off0.step hO i0
  replace sz := off0.size
  have ow_s15 : Own W4 (.slice (some ⟨p15_4, 0, none⟩) 1 1) [u8 (X / 4294967296)] := own_blk h_ (by rfl) (by show 1 ≤ maxLen; decide)
  clear hO h_ n_s15
  refine wpL_str (l := [u8 (X / 4294967296)]) (Own.sl ow_s15) (by rfl) rfl rfl ?_
  (try simp only [Act.put, List.setIfInBounds_toArray, List.set_cons_zero, List.set_cons_succ])
  refine wpL_cat (l := ((([] ++ [u8 (X / 72057594037927936)]) ++ [u8 (X / 281474976710656)]) ++ [u8 (X / 1099511627776)])) (m := [u8 (X / 4294967296)]) (by first | omega | (simp only [List.length_append, List.length_cons, List.length_nil]; omega)) (by rfl) rfl rfl rfl ?_
  (try simp only [Act.put, List.setIfInBounds_toArray, List.set_cons_zero, List.set_cons_succ])
  (refine wpL_val (v := ?_) (by rfl) ?_ ?_; rotate_left 1; (focus (go_simp; first | done | with_reducible rfl)))
  (try simp only [Act.put, List.setIfInBounds_toArray, List.set_cons_zero, List.set_cons_succ])
  refine wpL_nil ?_
  go_wp2_with fail
  rw [rounds_succ]
  go_upto_region 5 with fail
  refine wp_region_lit ?_
  (refine wpL_val (v := ?_) (by rfl) ?_ ?_; rotate_left 1; (focus (go_simp; first | done | with_reducible rfl)))
  (try simp only [Act.put, List.setIfInBounds_toArray, List.set_cons_zero, List.set_cons_succ])
  (refine wpL_val (v := ?_) (by rfl) ?_ ?_; rotate_left 1; (focus (go_simp; first | done | with_reducible rfl)))
  (try simp only [Act.put, List.setIfInBounds_toArray, List.set_cons_zero, List.set_cons_succ])
  refine wpL_val (v := .int .u64 (X : Int)) (by rfl) (by go_simp; (try simp only [hx2])) ?_
  (try simp only [Act.put, List.setIfInBounds_toArray, List.set_cons_zero, List.set_cons_succ])
  refine wpL_val (v := .int .i64 24) (by rfl) (by first | rfl | (go_simp; done) | (go_simp; with_reducible rfl) | (go_simp; omega)) ?_
  (try simp only [Act.put, List.setIfInBounds_toArray, List.set_cons_zero, List.set_cons_succ])
  (refine wpL_val (v := ?_) (by rfl) ?_ ?_; rotate_left 1; (focus (go_simp; first | done | with_reducible rfl)))
  (try simp only [Act.put, List.setIfInBounds_toArray, List.set_cons_zero, List.set_cons_succ])
  refine wpL_val (v := .int .u8 ((u8 (X / 16777216)).toNat : Int)) (by rfl) (by go_simp; (try simp only [u8_cast, IntKind.wrap_u8]); (try omega)) ?_
  (try simp only [Act.put, List.setIfInBounds_toArray, List.set_cons_zero, List.set_cons_succ])
  clear ow_s15 fr_s15
  refine wpL_newS (z := #[.int .u8 ((u8 (X / 16777216)).toNat : Int)]) (t := 5) (n := 1) (c := 1) (by rfl) (by first | kernel_rfl | (go_simp; done) | (go_simp; rfl)) ?_
  (try simp only [Act.put, List.setIfInBounds_toArray, List.set_cons_zero, List.set_cons_succ])
  intro p15_5 W5 n_s15 hO h_
  have fr_s15 : Fr (Value.ownBlock (.slice (some ⟨p15_5, 0, none⟩) 1 1)) w.heap.size [] := fr_new (Nat.le_trans sz n_s15)
  replace off0 := off0.step hO i0
  replace sz := off0.size
  have ow_s15 : Own W5 (.slice (some ⟨p15_5, 0, none⟩) 1 1) [u8 (X / 16777216)] := own_blk h_ (by rfl) (by show 1 ≤ maxLen; decide)
  clear hO h_ n_s15
  refine wpL_str (l := [u8 (X / 16777216)]) (Own.sl ow_s15) (by rfl) rfl rfl ?_
  (try simp only [Act.put, List.setIfInBounds_toArray, List.set_cons_zero, List.set_cons_succ])
  refine wpL_cat (l := (((([] ++ [u8 (X / 72057594037927936)]) ++ [u8 (X / 281474976710656)]) ++ [u8 (X / 1099511627776)]) ++ [u8 (X / 4294967296)])) (m := [u8 (X / 16777216)]) (by first | omega | (simp only [List.length_append, List.length_cons, List.length_nil]; omega)) (by rfl) rfl rfl rfl ?_
  (try simp only [Act.put, List.setIfInBounds_toArray, List.set_cons_zero, List.set_cons_succ])
  (refine wpL_val (v := ?_) (by rfl) ?_ ?_; rotate_left 1; (focus (go_simp; first | done | with_reducible rfl)))
  (try simp only [Act.put, List.setIfInBounds_toArray, List.set_cons_zero, List.set_cons_succ])
  refine wpL_nil ?_
  go_wp2_with fail
  rw [rounds_succ]
  go_upto_region 5 with fail
  refine wp_region_lit ?_
  (refine wpL_val (v := ?_) (by rfl) ?_ ?_; rotate_left 1; (focus (go_simp; first | done | with_reducible rfl)))
  (try simp only [Act.put, List.setIfInBounds_toArray, List.set_cons_zero, List.set_cons_succ])
  (refine wpL_val (v := ?_) (by rfl) ?_ ?_; rotate_left 1; (focus (go_simp; first | done | with_reducible rfl)))
  (try simp only [Act.put, List.setIfInBounds_toArray, List.set_cons_zero, List.set_cons_succ])
  refine wpL_val (v := .int .u64 (X : Int)) (by rfl) (by go_simp; (try simp only [hx2])) ?_
  (try simp only [Act.put, List.setIfInBounds_toArray, List.set_cons_zero, List.set_cons_succ])
  refine wpL_val (v := .int .i64 16) (by rfl) (by first | rfl | (go_simp; done) | (go_simp; with_reducible rfl) | (go_simp; omega)) ?_
  (try simp only [Act.put, List.setIfInBounds_toArray, List.set_cons_zero, List.set_cons_succ])
  (refine wpL_val (v := ?_) (by rfl) ?_ ?_; rotate_left 1; (focus (go_simp; first | done | with_reducible rfl)))
  (try simp only [Act.put, List.setIfInBounds_toArray, List.set_cons_zero, List.set_cons_succ])
  refine wpL_val (v := .int .u8 ((u8 (X / 65536)).toNat : Int)) (by rfl) (by go_simp; (try simp only [u8_cast, IntKind.wrap_u8]); (try omega)) ?_
  (try simp only [Act.put, List.setIfInBounds_toArray, List.set_cons_zero, List.set_cons_succ])
  clear ow_s15 fr_s15
  refine wpL_newS (z := #[.int .u8 ((u8 (X / 65536)).toNat : Int)]) (t := 5) (n := 1) (c := 1) (by rfl) (by first | kernel_rfl | (go_simp; done) | (go_simp; rfl)) ?_
  (try simp only [Act.put, List.setIfInBounds_toArray, List.set_cons_zero, List.set_cons_succ])
  intro p15_6 W6 n_s15 hO h_
  have fr_s15 : Fr (Value.ownBlock (.slice (some ⟨p15_6, 0, none⟩) 1 1)) w.heap.size [] := fr_new (Nat.le_trans sz n_s15)
  replace off0 := off0.step hO i0
  replace sz := off0.size
  have ow_s15 : Own W6 (.slice (some ⟨p15_6, 0, none⟩) 1 1) [u8 (X / 65536)] := own_blk h_ (by rfl) (by show 1 ≤ maxLen; decide)
  clear hO h_ n_s15
  refine wpL_str (l := [u8 (X / 65536)]) (Own.sl ow_s15) (by rfl) rfl rfl ?_
  (try simp only [Act.put, List.setIfInBounds_toArray, List.set_cons_zero, List.set_cons_succ])
  refine wpL_cat (l := ((((([] ++ [u8 (X / 72057594037927936)]) ++ [u8 (X / 281474976710656)]) ++ [u8 (X / 1099511627776)]) ++ [u8 (X / 4294967296)]) ++ [u8 (X / 16777216)])) (m := [u8 (X / 65536)]) (by first | omega | (simp only [List.length_append, List.length_cons, List.length_nil]; omega)) (by rfl) rfl rfl rfl ?_
  (try simp only [Act.put, List.setIfInBounds_toArray, List.set_cons_zero, List.set_cons_succ])
  (refine wpL_val (v := ?_) (by rfl) ?_ ?_; rotate_left 1; (focus (go_simp; first | done | with_reducible rfl)))
  (try simp only [Act.put, List.setIfInBounds_toArray, List.set_cons_zero, List.set_cons_succ])
  refine wpL_nil ?_
  go_wp2_with fail
  rw [rounds_succ]
  go_upto_region 5 with fail
  refine wp_region_lit ?_
  (refine wpL_val (v := ?_) (by rfl) ?_ ?_; rotate_left 1; (focus (go_simp; first | done | with_reducible rfl)))
  (try simp only [Act.put, List.setIfInBounds_toArray, List.set_cons_zero, List.set_cons_succ])
  (refine wpL_val (v := ?_) (by rfl) ?_ ?_; rotate_left 1; (focus (go_simp; first | done | with_reducible rfl)))
  (try simp only [Act.put, List.setIfInBounds_toArray, List.set_cons_zero, List.set_cons_succ])
  refine wpL_val (v := .int .u64 (X : Int)) (by rfl) (by go_simp; (try simp only [hx2])) ?_
  (try simp only [Act.put, List.setIfInBounds_toArray, List.set_cons_zero, List.set_cons_succ])
  refine wpL_val (v := .int .i64 8) (by rfl) (by first | rfl | (go_simp; done) | (go_simp; with_reducible rfl) | (go_simp; omega)) ?_
  (try simp only [Act.put, List.setIfInBounds_toArray, List.set_cons_zero, List.set_cons_succ])
  (refine wpL_val (v := ?_) (by rfl) ?_ ?_; rotate_left 1; (focus (go_simp; first | done | with_reducible rfl)))
  (try simp only [Act.put, List.setIfInBounds_toArray, List.set_cons_zero, List.set_cons_succ])
  refine wpL_val (v := .int .u8 ((u8 (X / 256)).toNat : Int)) (by rfl) (by go_simp; (try simp only [u8_cast, IntKind.wrap_u8]); (try omega)) ?_
  (try simp only [Act.put, List.setIfInBounds_toArray, List.set_cons_zero, List.set_cons_succ])
  clear ow_s15 fr_s15
  refine wpL_newS (z := #[.int .u8 ((u8 (X / 256)).toNat : Int)]) (t := 5) (n := 1) (c := 1) (by rfl) (by first | kernel_rfl | (go_simp; done) | (go_simp; rfl)) ?_
  (try simp only [Act.put, List.setIfInBounds_toArray, List.set_cons_zero, List.set_cons_succ])
  intro p15_7 W7 n_s15 hO h_
  have fr_s15 : Fr (Value.ownBlock (.slice (some ⟨p15_7, 0, none⟩) 1 1)) w.heap.size [] := fr_new (Nat.le_trans sz n_s15)
  replace off0 := off0.step hO i0
  replace sz := off0.size
  have ow_s15 : Own W7 (.slice (some ⟨p15_7, 0, none⟩) 1 1) [u8 (X / 256)] := own_blk h_ (by rfl) (by show 1 ≤ maxLen; decide)
  clear hO h_ n_s15
  refine wpL_str (l := [u8 (X / 256)]) (Own.sl ow_s15) (by rfl) rfl rfl ?_
  (try simp only [Act.put, List.setIfInBounds_toArray, List.set_cons_zero, List.set_cons_succ])
  refine wpL_cat (l := (((((([] ++ [u8 (X / 72057594037927936)]) ++ [u8 (X / 281474976710656)]) ++ [u8 (X / 1099511627776)]) ++ [u8 (X / 4294967296)]) ++ [u8 (X / 16777216)]) ++ [u8 (X / 65536)])) (m := [u8 (X / 256)]) (by first | omega | (simp only [List.length_append, List.length_cons, List.length_nil]; omega)) (by rfl) rfl rfl rfl ?_
  (try simp only [Act.put, List.setIfInBounds_toArray, List.set_cons_zero, List.set_cons_succ])
  (refine wpL_val (v := ?_) (by rfl) ?_ ?_; rotate_left 1; (focus (go_simp; first | done | with_reducible rfl)))
  (try simp only [Act.put, List.setIfInBounds_toArray, List.set_cons_zero, List.set_cons_succ])
  refine wpL_nil ?_
  go_wp2_with fail
  rw [rounds_succ]
  go_upto_region 5 with fail
  refine wp_region_lit ?_
  (refine wpL_val (v := ?_) (by rfl) ?_ ?_; rotate_left 1; (focus (go_simp; first | done | with_reducible rfl)))
  (try simp only [Act.put, List.setIfInBounds_toArray, List.set_cons_zero, List.set_cons_succ])
  (refine wpL_val (v := ?_) (by rfl) ?_ ?_; rotate_left 1; (focus (go_simp; first | done | with_reducible rfl)))
  (try simp only [Act.put, List.setIfInBounds_toArray, List.set_cons_zero, List.set_cons_succ])
  refine wpL_val (v := .int .u64 (X : Int)) (by rfl) (by go_simp; (try simp only [hx2])) ?_
  (try simp only [Act.put, List.setIfInBounds_toArray, List.set_cons_zero, List.set_cons_succ])
  refine wpL_val (v := .int .i64 0) (by rfl) (by first | rfl | (go_simp; done) | (go_simp; with_reducible rfl) | (go_simp; omega)) ?_
  (try simp only [Act.put, List.setIfInBounds_toArray, List.set_cons_zero, List.set_cons_succ])
  (refine wpL_val (v := ?_) (by rfl) ?_ ?_; rotate_left 1; (focus (go_simp; first | done | with_reducible rfl)))
  (try simp only [Act.put, List.setIfInBounds_toArray, List.set_cons_zero, List.set_cons_succ])
  refine wpL_val (v := .int .u8 ((u8 X).toNat : Int)) (by rfl) (by go_simp; (try simp only [u8_cast, IntKind.wrap_u8]); (try omega)) ?_
  (try simp only [Act.put, List.setIfInBounds_toArray, List.set_cons_zero, List.set_cons_succ])
  clear ow_s15 fr_s15
  refine wpL_newS (z := #[.int .u8 ((u8 X).toNat : Int)]) (t := 5) (n := 1) (c := 1) (by rfl) (by first | kernel_rfl | (go_simp; done) | (go_simp; rfl)) ?_
  (try simp only [Act.put, List.setIfInBounds_toArray, List.set_cons_zero, List.set_cons_succ])
  intro p15_8 W8 n_s15 hO h_
  have fr_s15 : Fr (Value.ownBlock (.slice (some ⟨p15_8, 0, none⟩) 1 1)) w.heap.size [] := fr_new (Nat.le_trans sz n_s15)
  replace off0 := off0.step hO i0
  replace sz := off0.size
  have ow_s15 : Own W8 (.slice (some ⟨p15_8, 0, none⟩) 1 1) [u8 X] := own_blk h_ (by rfl) (by show 1 ≤ maxLen; decide)
  clear hO h_ n_s15
  refine wpL_str (l := [u8 X]) (Own.sl ow_s15) (by rfl) rfl rfl ?_
  (try simp only [Act.put, List.setIfInBounds_toArray, List.set_cons_zero, List.set_cons_succ])
  refine wpL_cat (l := ((((((([] ++ [u8 (X / 72057594037927936)]) ++ [u8 (X / 281474976710656)]) ++ [u8 (X / 1099511627776)]) ++ [u8 (X / 4294967296)]) ++ [u8 (X / 16777216)]) ++ [u8 (X / 65536)]) ++ [u8 (X / 256)])) (m := [u8 X]) (by first | omega | (simp only [List.length_append, List.length_cons, List.length_nil]; omega)) (by rfl) rfl rfl rfl ?_
  (try simp only [Act.put, List.setIfInBounds_toArray, List.set_cons_zero, List.set_cons_succ])
  (refine wpL_val (v := ?_) (by rfl) ?_ ?_; rotate_left 1; (focus (go_simp; first | done | with_reducible rfl)))
  (try simp only [Act.put, List.setIfInBounds_toArray, List.set_cons_zero, List.set_cons_succ])
  refine wpL_nil ?_
  go_wp2_with fail
  rw [rounds_succ]
  go_wp2
  exact bodyPost_ret (v := str (((((((([] ++ [u8 (X / 72057594037927936)]) ++ [u8 (X / 281474976710656)]) ++ [u8 (X / 1099511627776)]) ++ [u8 (X / 4294967296)]) ++ [u8 (X / 16777216)]) ++ [u8 (X / 65536)]) ++ [u8 (X / 256)]) ++ [u8 X])) (by simp only [results, Try.results23]; go_simp) rfl ⟨rfl, off0.ext⟩
set_option maxHeartbeats 4000000 in
theorem rtext_c (m : List UInt8) (hm : m.length ≤ 140737488355328) (w : World) :
    Calls Try.prog 24 #[str m] w fun e w' => Ret (str ([u8 (m.length / 256)] ++ [u8 m.length] ++ m)) w w' e := by
  have off0 : Off [] w w := Off.refl _ _
  have sz := off0.size
  go_enter Try.func24, Try.ntmps24
  go_upto_region 1 with fail
  refine wp_region_lit ?_
  (refine wpL_val (v := ?_) (by rfl) ?_ ?_; rotate_left 1; (focus (go_simp; first | done | with_reducible rfl)))
  (try simp only [Act.put, List.setIfInBounds_toArray, List.set_cons_zero, List.set_cons_succ])
  refine wpL_slen (l := m) (by rfl) rfl rfl ?_
  (try simp only [Act.put, List.setIfInBounds_toArray, List.set_cons_zero, List.set_cons_succ])
  refine wpL_val (v := .int .i64 ((m.length / 256 : Nat) : Int)) (by rfl) (by go_simp; (try omega)) ?_
  (try simp only [Act.put, List.setIfInBounds_toArray, List.set_cons_zero, List.set_cons_succ])
  refine wpL_ret (one_c (m.length / 256) w) (by rfl) rfl (by kernel_rfl) rfl ?_
  (try simp only [Act.put, List.setIfInBounds_toArray, List.set_cons_zero, List.set_cons_succ])
  intro W1 hO
  replace off0 := off0.step hO i0
  replace sz := off0.size
  clear hO
  (refine wpL_val (v := ?_) (by rfl) ?_ ?_; rotate_left 1; (focus (go_simp; first | done | with_reducible rfl)))
  (try simp only [Act.put, List.setIfInBounds_toArray, List.set_cons_zero, List.set_cons_succ])
  refine wpL_slen (l := m) (by rfl) rfl rfl ?_
  (try simp only [Act.put, List.setIfInBounds_toArray, List.set_cons_zero, List.set_cons_succ])
  refine wpL_ret (one_c (m.length) W1) (by rfl) rfl (by kernel_rfl) rfl ?_
  (try simp only [Act.put, List.setIfInBounds_toArray, List.set_cons_zero, List.set_cons_succ])
  intro W2 hO
  replace off0 := off0.step hO i0
  replace sz := off0.size
  clear hO
  refine wpL_cat (l := [u8 (m.length / 256)]) (m := [u8 (m.length)]) (by first | omega | (simp only [List.length_append, List.length_cons, List.length_nil]; omega)) (by rfl) rfl rfl rfl ?_
  (try simp only [Act.put, List.setIfInBounds_toArray, List.set_cons_zero, List.set_cons_succ])
  (refine wpL_val (v := ?_) (by rfl) ?_ ?_; rotate_left 1; (focus (go_simp; first | done | with_reducible rfl)))
  (try simp only [Act.put, List.setIfInBounds_toArray, List.set_cons_zero, List.set_cons_succ])
  refine wpL_cat (l := ([u8 (m.length / 256)] ++ [u8 (m.length)])) (m := m) (by first | omega | (simp only [List.length_append, List.length_cons, List.length_nil]; omega)) (by rfl) rfl rfl rfl ?_
  (try simp only [Act.put, List.setIfInBounds_toArray, List.set_cons_zero, List.set_cons_succ])
  (refine wpL_val (v := ?_) (by rfl) ?_ ?_; rotate_left 1; (focus (go_simp; first | done | with_reducible rfl)))
  (try simp only [Act.put, List.setIfInBounds_toArray, List.set_cons_zero, List.set_cons_succ])
  refine wpL_nil ?_
  go_wp2
  exact bodyPost_ret (v := str (([u8 (m.length / 256)] ++ [u8 (m.length)]) ++ m)) (by simp only [results, Try.results24]; go_simp) rfl ⟨rfl, off0.ext⟩
end Go.Proofs.Yteniajdmmffamaa
