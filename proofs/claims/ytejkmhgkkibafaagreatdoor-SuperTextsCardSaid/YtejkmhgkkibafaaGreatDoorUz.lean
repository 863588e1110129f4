/- A number's eight bytes as a text, by the document. No conditions. -/
import Derived.Test.YtejkmhgkkibafaaGreatDoorGc
import Derived.Test.YtejkmhgkkibafaaGreatDoorGd
import Derived.Test.YtejkmhgkkibafaaGreatDoorJ11
set_option linter.unusedSimpArgs false
set_option linter.unusedVariables false
namespace Go.Proofs.YtejkmhgkkibafaaGreatDoor
set_option maxHeartbeats 4000000
set_option maxRecDepth 100000
open Go.RowKit
attribute [local irreducible] wpList
theorem eight_c (n : Int) (X : Nat) (hx : n % 18446744073709551616 = (X : Int)) (w : World) :
  Calls Tryz.prog 48 #[.int .i64 n] w fun e w' => Ret (str (be8 X)) w w' e := by
 have hx2 : IntKind.wrap .u64 n = (X : Int) := by rw [IntKind.wrap_u64]; exact hx
 have x0 : (0 : Int) ≤ (X : Int) := Int.natCast_nonneg _
 have x1 : (X : Int) < 18446744073709551616 := by omega
 have off0 : Off [] w w := Off.refl _ _
 go_enter Tryz.func48, Tryz.ntmps48
 go_wp2_with fail
 refine wp_loop_rounds 9 ?_
 rw [rounds_succ]
 go_upto_region 5 with fail
 refine wp_region_lit ?_
 refine Lv ?_
 refine Lv ?_
 refine Lw ?_ (v := .int .u64 (X : Int)) (hv := by go_simp; (try simp only [hx2]))
 refine Lw ?_ (v := .int .i64 56)
 refine Lv ?_
 refine Lw ?_ (v := .int .u8 ((u8 (X / 72057594037927936)).toNat : Int)) (hv := by go_simp; (try simp only [u8_cast, IntKind.wrap_u8]); (try omega))
 refine LnS ?_ (z := #[.int .u8 ((u8 (X / 72057594037927936)).toNat : Int)]) (t := 5) (n := 1) (c := 1)
 intro p15_1 W1 n_s15 hO h_
 replace off0 := off0.o hO
 have ow_s15 : Own W1 (.slice (some ⟨p15_1, 0, none⟩) 1 1) [u8 (X / 72057594037927936)] := own_blk h_ (by rfl) (by show 1 ≤ maxLen; decide)
 clear hO h_ n_s15
 refine wpL_str (l := [u8 (X / 72057594037927936)]) (Own.sl ow_s15) (by rfl) rfl rfl ?_
 (try simp only [Act.put, mA, mB, mC])
 refine wpL_cat (l := []) (m := [u8 (X / 72057594037927936)]) (by first | omega | (simp only [List.length_append, List.length_cons, List.length_nil]; omega)) (by rfl) rfl rfl rfl ?_
 (try simp only [Act.put, mA, mB, mC])
 refine Lv ?_
 refine wpL_nil ?_
 go_wp2_with fail
 rw [rounds_succ]
 go_upto_region 5 with fail
 refine wp_region_lit ?_
 refine Lv ?_
 refine Lv ?_
 refine Lw ?_ (v := .int .u64 (X : Int)) (hv := by go_simp; (try simp only [hx2]))
 refine Lw ?_ (v := .int .i64 48)
 refine Lv ?_
 refine Lw ?_ (v := .int .u8 ((u8 (X / 281474976710656)).toNat : Int)) (hv := by go_simp; (try simp only [u8_cast, IntKind.wrap_u8]); (try omega))
 clear ow_s15
 refine LnS ?_ (z := #[.int .u8 ((u8 (X / 281474976710656)).toNat : Int)]) (t := 5) (n := 1) (c := 1)
 intro p15_2 W2 n_s15 hO h_
 replace off0 := off0.o hO
 have ow_s15 : Own W2 (.slice (some ⟨p15_2, 0, none⟩) 1 1) [u8 (X / 281474976710656)] := own_blk h_ (by rfl) (by show 1 ≤ maxLen; decide)
 clear hO h_ n_s15
 refine wpL_str (l := [u8 (X / 281474976710656)]) (Own.sl ow_s15) (by rfl) rfl rfl ?_
 (try simp only [Act.put, mA, mB, mC])
 refine wpL_cat (l := ([] ++ [u8 (X / 72057594037927936)])) (m := [u8 (X / 281474976710656)]) (by first | omega | (simp only [List.length_append, List.length_cons, List.length_nil]; omega)) (by rfl) rfl rfl rfl ?_
 (try simp only [Act.put, mA, mB, mC])
 refine Lv ?_
 refine wpL_nil ?_
 go_wp2_with fail
 rw [rounds_succ]
 go_upto_region 5 with fail
 refine wp_region_lit ?_
 refine Lv ?_
 refine Lv ?_
 refine Lw ?_ (v := .int .u64 (X : Int)) (hv := by go_simp; (try simp only [hx2]))
 refine Lw ?_ (v := .int .i64 40)
 refine Lv ?_
 refine Lw ?_ (v := .int .u8 ((u8 (X / 1099511627776)).toNat : Int)) (hv := by go_simp; (try simp only [u8_cast, IntKind.wrap_u8]); (try omega))
 clear ow_s15
 refine LnS ?_ (z := #[.int .u8 ((u8 (X / 1099511627776)).toNat : Int)]) (t := 5) (n := 1) (c := 1)
 intro p15_3 W3 n_s15 hO h_
 replace off0 := off0.o hO
 have ow_s15 : Own W3 (.slice (some ⟨p15_3, 0, none⟩) 1 1) [u8 (X / 1099511627776)] := own_blk h_ (by rfl) (by show 1 ≤ maxLen; decide)
 clear hO h_ n_s15
 refine wpL_str (l := [u8 (X / 1099511627776)]) (Own.sl ow_s15) (by rfl) rfl rfl ?_
 (try simp only [Act.put, mA, mB, mC])
 refine wpL_cat (l := (([] ++ [u8 (X / 72057594037927936)]) ++ [u8 (X / 281474976710656)])) (m := [u8 (X / 1099511627776)]) (by first | omega | (simp only [List.length_append, List.length_cons, List.length_nil]; omega)) (by rfl) rfl rfl rfl ?_
 (try simp only [Act.put, mA, mB, mC])
 refine Lv ?_
 refine wpL_nil ?_
 go_wp2_with fail
 rw [rounds_succ]
 go_upto_region 5 with fail
 refine wp_region_lit ?_
 refine Lv ?_
 refine Lv ?_
 refine Lw ?_ (v := .int .u64 (X : Int)) (hv := by go_simp; (try simp only [hx2]))
 refine Lw ?_ (v := .int .i64 32)
 refine Lv ?_
 refine Lw ?_ (v := .int .u8 ((u8 (X / 4294967296)).toNat : Int)) (hv := by go_simp; (try simp only [u8_cast, IntKind.wrap_u8]); (try omega))
 clear ow_s15
 refine LnS ?_ (z := #[.int .u8 ((u8 (X / 4294967296)).toNat : Int)]) (t := 5) (n := 1) (c := 1)
 intro p15_4 W4 n_s15 hO h_
 replace off0 := off0.o hO
 have ow_s15 : Own W4 (.slice (some ⟨p15_4, 0, none⟩) 1 1) [u8 (X / 4294967296)] := own_blk h_ (by rfl) (by show 1 ≤ maxLen; decide)
 clear hO h_ n_s15
 refine wpL_str (l := [u8 (X / 4294967296)]) (Own.sl ow_s15) (by rfl) rfl rfl ?_
 (try simp only [Act.put, mA, mB, mC])
 refine wpL_cat (l := ((([] ++ [u8 (X / 72057594037927936)]) ++ [u8 (X / 281474976710656)]) ++ [u8 (X / 1099511627776)])) (m := [u8 (X / 4294967296)]) (by first | omega | (simp only [List.length_append, List.length_cons, List.length_nil]; omega)) (by rfl) rfl rfl rfl ?_
 (try simp only [Act.put, mA, mB, mC])
 refine Lv ?_
 refine wpL_nil ?_
 go_wp2_with fail
 rw [rounds_succ]
 go_upto_region 5 with fail
 refine wp_region_lit ?_
 refine Lv ?_
 refine Lv ?_
 refine Lw ?_ (v := .int .u64 (X : Int)) (hv := by go_simp; (try simp only [hx2]))
 refine Lw ?_ (v := .int .i64 24)
 refine Lv ?_
 refine Lw ?_ (v := .int .u8 ((u8 (X / 16777216)).toNat : Int)) (hv := by go_simp; (try simp only [u8_cast, IntKind.wrap_u8]); (try omega))
 clear ow_s15
 refine LnS ?_ (z := #[.int .u8 ((u8 (X / 16777216)).toNat : Int)]) (t := 5) (n := 1) (c := 1)
 intro p15_5 W5 n_s15 hO h_
 replace off0 := off0.o hO
 have ow_s15 : Own W5 (.slice (some ⟨p15_5, 0, none⟩) 1 1) [u8 (X / 16777216)] := own_blk h_ (by rfl) (by show 1 ≤ maxLen; decide)
 clear hO h_ n_s15
 refine wpL_str (l := [u8 (X / 16777216)]) (Own.sl ow_s15) (by rfl) rfl rfl ?_
 (try simp only [Act.put, mA, mB, mC])
 refine wpL_cat (l := (((([] ++ [u8 (X / 72057594037927936)]) ++ [u8 (X / 281474976710656)]) ++ [u8 (X / 1099511627776)]) ++ [u8 (X / 4294967296)])) (m := [u8 (X / 16777216)]) (by first | omega | (simp only [List.length_append, List.length_cons, List.length_nil]; omega)) (by rfl) rfl rfl rfl ?_
 (try simp only [Act.put, mA, mB, mC])
 refine Lv ?_
 refine wpL_nil ?_
 go_wp2_with fail
 rw [rounds_succ]
 go_upto_region 5 with fail
 refine wp_region_lit ?_
 refine Lv ?_
 refine Lv ?_
 refine Lw ?_ (v := .int .u64 (X : Int)) (hv := by go_simp; (try simp only [hx2]))
 refine Lw ?_ (v := .int .i64 16)
 refine Lv ?_
 refine Lw ?_ (v := .int .u8 ((u8 (X / 65536)).toNat : Int)) (hv := by go_simp; (try simp only [u8_cast, IntKind.wrap_u8]); (try omega))
 clear ow_s15
 refine LnS ?_ (z := #[.int .u8 ((u8 (X / 65536)).toNat : Int)]) (t := 5) (n := 1) (c := 1)
 intro p15_6 W6 n_s15 hO h_
 replace off0 := off0.o hO
 have ow_s15 : Own W6 (.slice (some ⟨p15_6, 0, none⟩) 1 1) [u8 (X / 65536)] := own_blk h_ (by rfl) (by show 1 ≤ maxLen; decide)
 clear hO h_ n_s15
 refine wpL_str (l := [u8 (X / 65536)]) (Own.sl ow_s15) (by rfl) rfl rfl ?_
 (try simp only [Act.put, mA, mB, mC])
 refine wpL_cat (l := ((((([] ++ [u8 (X / 72057594037927936)]) ++ [u8 (X / 281474976710656)]) ++ [u8 (X / 1099511627776)]) ++ [u8 (X / 4294967296)]) ++ [u8 (X / 16777216)])) (m := [u8 (X / 65536)]) (by first | omega | (simp only [List.length_append, List.length_cons, List.length_nil]; omega)) (by rfl) rfl rfl rfl ?_
 (try simp only [Act.put, mA, mB, mC])
 refine Lv ?_
 refine wpL_nil ?_
 go_wp2_with fail
 rw [rounds_succ]
 go_upto_region 5 with fail
 refine wp_region_lit ?_
 refine Lv ?_
 refine Lv ?_
 refine Lw ?_ (v := .int .u64 (X : Int)) (hv := by go_simp; (try simp only [hx2]))
 refine Lw ?_ (v := .int .i64 8)
 refine Lv ?_
 refine Lw ?_ (v := .int .u8 ((u8 (X / 256)).toNat : Int)) (hv := by go_simp; (try simp only [u8_cast, IntKind.wrap_u8]); (try omega))
 clear ow_s15
 refine LnS ?_ (z := #[.int .u8 ((u8 (X / 256)).toNat : Int)]) (t := 5) (n := 1) (c := 1)
 intro p15_7 W7 n_s15 hO h_
 replace off0 := off0.o hO
 have ow_s15 : Own W7 (.slice (some ⟨p15_7, 0, none⟩) 1 1) [u8 (X / 256)] := own_blk h_ (by rfl) (by show 1 ≤ maxLen; decide)
 clear hO h_ n_s15
 refine wpL_str (l := [u8 (X / 256)]) (Own.sl ow_s15) (by rfl) rfl rfl ?_
 (try simp only [Act.put, mA, mB, mC])
 refine wpL_cat (l := (((((([] ++ [u8 (X / 72057594037927936)]) ++ [u8 (X / 281474976710656)]) ++ [u8 (X / 1099511627776)]) ++ [u8 (X / 4294967296)]) ++ [u8 (X / 16777216)]) ++ [u8 (X / 65536)])) (m := [u8 (X / 256)]) (by first | omega | (simp only [List.length_append, List.length_cons, List.length_nil]; omega)) (by rfl) rfl rfl rfl ?_
 (try simp only [Act.put, mA, mB, mC])
 refine Lv ?_
 refine wpL_nil ?_
 go_wp2_with fail
 rw [rounds_succ]
 go_upto_region 5 with fail
 refine wp_region_lit ?_
 refine Lv ?_
 refine Lv ?_
 refine Lw ?_ (v := .int .u64 (X : Int)) (hv := by go_simp; (try simp only [hx2]))
 refine Lw ?_ (v := .int .i64 0)
 refine Lv ?_
 refine Lw ?_ (v := .int .u8 ((u8 X).toNat : Int)) (hv := by go_simp; (try simp only [u8_cast, IntKind.wrap_u8]); (try omega))
 clear ow_s15
 refine LnS ?_ (z := #[.int .u8 ((u8 X).toNat : Int)]) (t := 5) (n := 1) (c := 1)
 intro p15_8 W8 n_s15 hO h_
 replace off0 := off0.o hO
 have ow_s15 : Own W8 (.slice (some ⟨p15_8, 0, none⟩) 1 1) [u8 X] := own_blk h_ (by rfl) (by show 1 ≤ maxLen; decide)
 clear hO h_ n_s15
 refine wpL_str (l := [u8 X]) (Own.sl ow_s15) (by rfl) rfl rfl ?_
 (try simp only [Act.put, mA, mB, mC])
 refine wpL_cat (l := ((((((([] ++ [u8 (X / 72057594037927936)]) ++ [u8 (X / 281474976710656)]) ++ [u8 (X / 1099511627776)]) ++ [u8 (X / 4294967296)]) ++ [u8 (X / 16777216)]) ++ [u8 (X / 65536)]) ++ [u8 (X / 256)])) (m := [u8 X]) (by first | omega | (simp only [List.length_append, List.length_cons, List.length_nil]; omega)) (by rfl) rfl rfl rfl ?_
 (try simp only [Act.put, mA, mB, mC])
 refine Lv ?_
 refine wpL_nil ?_
 go_wp2_with fail
 rw [rounds_succ]
 go_wp2
 exact bodyPost_ret (v := str (((((((([] ++ [u8 (X / 72057594037927936)]) ++ [u8 (X / 281474976710656)]) ++ [u8 (X / 1099511627776)]) ++ [u8 (X / 4294967296)]) ++ [u8 (X / 16777216)]) ++ [u8 (X / 65536)]) ++ [u8 (X / 256)]) ++ [u8 X])) (by simp only [results, Tryz.results48]; go_simp) rfl ⟨rfl, off0.ext⟩
end Go.Proofs.YtejkmhgkkibafaaGreatDoor
