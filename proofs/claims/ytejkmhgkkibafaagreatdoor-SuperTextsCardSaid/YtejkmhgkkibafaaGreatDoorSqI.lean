/- sha2: the sum of what has been written; the sum of parts. Conditions: the tables hold their numbers. -/
import Derived.Test.YtejkmhgkkibafaaGreatDoorJ33
set_option linter.unusedSimpArgs false
set_option linter.unusedVariables false
namespace Go.Proofs.YtejkmhgkkibafaaGreatDoor
set_option maxHeartbeats 1500000
set_option maxRecDepth 100000
open Go.RowKit
attribute [local irreducible] wpList wpTr wpX
set_option linter.unusedSimpArgs false
theorem run_c84 {w : World} {o : Oper} {a : Act} {x : Operand} {p : Int} (ho : o.op = .convert 193 5 x) (hx : a.eval x = .int .u32 p) : (execOp a.eval o).run Tryz.prog w = .ok (.value (.int .u8 (w8 p))) w := by
 simp [execOp, ho, hx, convert, run_underlying Tryz.underlying5, run_underlying Tryz.underlying193, Sem.run_bind, Conv.intToInt, w8]
theorem u32_agg {w : World} : (isAgg 193).run Tryz.prog w = .ok false w := by
 simp [isAgg, run_underlying Tryz.underlying193, Sem.run_bind]
theorem sr4_0 (x : Int) : sr4 x 0 = x := by unfold sr4; simp

theorem sums4_c (p : Nat) (v : Value) (F : List UInt8) (hlen : F.length ≤ 70368744177664) (w : World) (hkB : Blk w p (hcs v F) 196) (hrS : Sl w v (hr4 F)) (hG : GS4 w) :
  Calls Tryz.prog 86 #[.pointer (some ⟨p, 0, none⟩)] w fun e w' => Ret (.agg (arrK .u8 32 (sm4 F))) w w' e := by
 have HG := Lib.hid hG
 clear hG
 have hS := SH.nil [] w
 have hl3 := hr_lt4 F
 have hN : zc4 (hr4 F).length = zc4 F.length := by rw [hr_length4, zc_rest4]
 have hzc := (zc_spec4 (hr4 F).length).2
 obtain ⟨PD, hPD⟩ : ∃ PD, PD = (pad4 F).drop (64 * (F.length / 64)) := ⟨_, rfl⟩
 have hpl : PD.length = 64 * nb4 (hr4 F).length := by have h1 := pad_length4 F; have h2 := pad_end4 F; rw [hPD, List.length_drop, h1]; omega
 have HPD := Lib.hid hPD
 clear hPD
 go_enter Tryz.func86, Tryz.ntmps86
 go_upto_region 0 with fail
 refine RL hS ?_
 clear hS
 refine MN (z := arrK .u8 32 (fun _ => 0)) (t := 23) ?_
 intro p2_1
 refine MZ fun W hS => ?_
 go_upto_region 3 with fail
 refine RL hS ?_
 clear hS
 refine MO (m := []) (n := 0) (z := #[]) ?_
 intro v13_2
 refine MV ?_
 refine MV ?_
 refine MV ?_
 refine MF (v := v) (fun W hS => run_at rfl rfl (by rw [blk_cell (blk_step hkB hS.ext)]; exact hc_rest) (by kernel_rfl)) ?_
 refine MA 0 (xs := []) (ys := (hr4 F)) (fun W hS => (sl_e hrS hS.ext)) (by first | omega | (simp only [List.length_append, List.length_cons, List.length_nil, List.length_replicate, List.length_drop]; omega)) ?_
 intro v18_3
 refine MT (fun W hS => by rw [List.nil_append] at hS; exact hS) ?_
 refine MO (m := [128]) (n := 1) (z := #[.int .u8 128]) ?_
 intro v19_4
 refine MA 1 (xs := (hr4 F)) (ys := [128]) (fun W hS => (hS.osl (i := 0) rfl)) (by first | omega | (simp only [List.length_append, List.length_cons, List.length_nil, List.length_replicate, List.length_drop]; omega)) ?_
 intro v20_5
 refine MV ?_
 refine MZ fun W hS => ?_
 go_wp2_with fail
 go_loopw [3] (fun sv wr => ∃ (k : Nat) (bv : Value), (k ≤ zc4 (hr4 F).length) ∧ (bv = sv) ∧ SH [] w wr [.o bv (hr4 F ++ [128] ++ List.replicate k 0), .b p2_1 (arrK .u8 32 (fun _ => 0)) 23])
  (fun sv _ => F.length + 300 - slLen sv)
 case atStart => exact ⟨0, _, Nat.zero_le _, rfl, (by have h_ := (hS.pick [1, 2]); rw [List.replicate_zero, List.append_nil]; exact h_)⟩
 clear hS
 case round =>
  obtain ⟨k, bv, hk, rfl, hS⟩ := hrel
  have lb := sl_len (hS.osl (i := 0) rfl)
  by_cases hz : k < zc4 (hr4 F).length
  ·
   have _f := hz
   have hz2 := zc_lt4 hz
   go_upto_region 4 with fail
   refine RL hS ?_
   clear hS
   refine MV ?_
   refine MF (v := .int .i64 ((hr4 F ++ [128] ++ List.replicate k 0).length : Int)) (fun W hS => run_lenA (hS.osl (i := 0) rfl) rfl rfl) ?_
   refine MW ?_ (v := .int .i64 ((((hr4 F).length + 1 + k) % 64 : Nat) : Int)) (hv := by intro W; go_simp; (try simp only [List.length_append, List.length_cons, List.length_nil, List.length_replicate]); rw [Int.tmod_eq_emod_of_nonneg (by omega)]; omega)
   refine MW ?_ (v := .bool true) (hv := by intro W; go_simp; omega)
   refine MZ fun W hS => ?_
   go_upto_region 5 with fail
   refine RL hS ?_
   clear hS
   refine MV ?_
   refine MO (m := [0]) (n := 1) (z := #[.int .u8 0]) ?_
   intro v26_6
   refine MA 1 (xs := (hr4 F ++ [128] ++ List.replicate k 0)) (ys := [0]) (fun W hS => (hS.osl (i := 0) rfl)) (by first | omega | (simp only [List.length_append, List.length_cons, List.length_nil, List.length_replicate, List.length_drop]; omega)) ?_
   intro v27_7
   refine MV ?_
   refine MZ fun W hS => ?_
   have la := sl_len (hS.osl (i := 1) rfl)
   simp only [List.length_append, List.length_cons, List.length_nil, List.length_replicate] at la lb
   go_wp2
   go_roundw
   case rel => exact ⟨k + 1, _, by omega, rfl, (by have h_ := (hS.pick [1, 2]); rw [List.append_assoc _ (List.replicate k 0), ← List.replicate_succ'] at h_; exact h_)⟩
   case measure => simp only [la, lb]; omega
  ·
   have _f := hz
   obtain rfl : k = zc4 (hr4 F).length := by omega
   have hz2 := (zc_spec4 (hr4 F).length).1
   go_upto_region 4 with fail
   refine RL hS ?_
   clear hS
   refine MV ?_
   refine MF (v := .int .i64 ((hr4 F ++ [128] ++ List.replicate (zc4 (hr4 F).length) 0).length : Int)) (fun W hS => run_lenA (hS.osl (i := 0) rfl) rfl rfl) ?_
   refine MW ?_ (v := .int .i64 ((((hr4 F).length + 1 + zc4 (hr4 F).length) % 64 : Nat) : Int)) (hv := by intro W; go_simp; (try simp only [List.length_append, List.length_cons, List.length_nil, List.length_replicate]); rw [Int.tmod_eq_emod_of_nonneg (by omega)]; omega)
   refine MW ?_ (v := .bool false) (hv := by intro W; first | (go_simp; done) | (go_simp; omega))
   refine MZ fun W hS => ?_
   go_wp2_with fail
   refine wp_loop_rounds 9 ?_
   rw [rounds_succ]
   go_upto_region 9 with fail
   refine RL hS ?_
   clear hS
   refine MV ?_
   refine MV ?_
   refine MV ?_
   refine MV ?_
   refine MF (v := .int .i64 (F.length : Int)) (fun W hS => run_at rfl rfl (by rw [blk_cell (blk_step hkB hS.ext)]; exact hc_count) (by kernel_rfl)) ?_
   refine MW ?_ (v := .int .u64 ((F.length : Nat) : Int)) (hv := by intro W; go_simp; (try simp only [IntKind.wrap_u64]); omega)
   refine MW ?_ (v := .int .u64 ((8 * F.length : Nat) : Int)) (hv := by intro W; rw [show ((8 * F.length : Nat) : Int) = sl ((F.length : Nat) : Int) 3 from (by unfold sl; rw [IntKind.wrap_u64]; omega)]; exact run_shl (n := 3) (by decide) rfl rfl rfl)
   refine MW ?_ (v := .int .i64 7)
   refine MW ?_ (v := .int .i64 56)
   refine MW ?_ (v := .int .u64 (sr ((8 * F.length : Nat) : Int) 56)) (hv := fun _ => run_shr (n := 56) (by decide) rfl rfl rfl)
   refine MW ?_ (v := .int .u8 ((u8 ((8 * F.length) / 72057594037927936)).toNat : Int)) (hv := by intro W; rw [← w8_nat (8 * F.length) 56 72057594037927936 (by decide)]; exact run_c8 rfl rfl)
   refine MO (m := [u8 ((8 * F.length) / 72057594037927936)]) (n := 1) (z := #[.int .u8 ((u8 ((8 * F.length) / 72057594037927936)).toNat : Int)]) ?_
   intro v43_8
   refine MA 1 (xs := (hr4 F ++ [128] ++ List.replicate (zc4 (hr4 F).length) 0)) (ys := [u8 ((8 * F.length) / 72057594037927936)]) (fun W hS => (hS.osl (i := 0) rfl)) (by first | omega | (simp only [List.length_append, List.length_cons, List.length_nil, List.length_replicate, List.length_drop]; omega)) ?_
   intro v44_9
   refine MV ?_
   refine MZ fun W hS => ?_
   go_wp2_with fail
   rw [rounds_succ]
   go_upto_region 9 with fail
   refine RL hS ?_
   clear hS
   refine MV ?_
   refine MV ?_
   refine MV ?_
   refine MV ?_
   refine MF (v := .int .i64 (F.length : Int)) (fun W hS => run_at rfl rfl (by rw [blk_cell (blk_step hkB hS.ext)]; exact hc_count) (by kernel_rfl)) ?_
   refine MW ?_ (v := .int .u64 ((F.length : Nat) : Int)) (hv := by intro W; go_simp; (try simp only [IntKind.wrap_u64]); omega)
   refine MW ?_ (v := .int .u64 ((8 * F.length : Nat) : Int)) (hv := by intro W; rw [show ((8 * F.length : Nat) : Int) = sl ((F.length : Nat) : Int) 3 from (by unfold sl; rw [IntKind.wrap_u64]; omega)]; exact run_shl (n := 3) (by decide) rfl rfl rfl)
   refine MW ?_ (v := .int .i64 6)
   refine MW ?_ (v := .int .i64 48)
   refine MW ?_ (v := .int .u64 (sr ((8 * F.length : Nat) : Int) 48)) (hv := fun _ => run_shr (n := 48) (by decide) rfl rfl rfl)
   refine MW ?_ (v := .int .u8 ((u8 ((8 * F.length) / 281474976710656)).toNat : Int)) (hv := by intro W; rw [← w8_nat (8 * F.length) 48 281474976710656 (by decide)]; exact run_c8 rfl rfl)
   refine MD 0 ?_
   refine MO (m := [u8 ((8 * F.length) / 281474976710656)]) (n := 1) (z := #[.int .u8 ((u8 ((8 * F.length) / 281474976710656)).toNat : Int)]) ?_
   intro v43_10
   refine MA 1 (xs := ((hr4 F ++ [128] ++ List.replicate (zc4 (hr4 F).length) 0) ++ [u8 ((8 * F.length) / 72057594037927936)])) (ys := [u8 ((8 * F.length) / 281474976710656)]) (fun W hS => (hS.osl (i := 0) rfl)) (by first | omega | (simp only [List.length_append, List.length_cons, List.length_nil, List.length_replicate, List.length_drop]; omega)) ?_
   intro v44_11
   refine MV ?_
   refine MZ fun W hS => ?_
   go_wp2_with fail
   rw [rounds_succ]
   go_upto_region 9 with fail
   refine RL hS ?_
   clear hS
   refine MV ?_
   refine MV ?_
   refine MV ?_
   refine MV ?_
   refine MF (v := .int .i64 (F.length : Int)) (fun W hS => run_at rfl rfl (by rw [blk_cell (blk_step hkB hS.ext)]; exact hc_count) (by kernel_rfl)) ?_
   refine MW ?_ (v := .int .u64 ((F.length : Nat) : Int)) (hv := by intro W; go_simp; (try simp only [IntKind.wrap_u64]); omega)
   refine MW ?_ (v := .int .u64 ((8 * F.length : Nat) : Int)) (hv := by intro W; rw [show ((8 * F.length : Nat) : Int) = sl ((F.length : Nat) : Int) 3 from (by unfold sl; rw [IntKind.wrap_u64]; omega)]; exact run_shl (n := 3) (by decide) rfl rfl rfl)
   refine MW ?_ (v := .int .i64 5)
   refine MW ?_ (v := .int .i64 40)
   refine MW ?_ (v := .int .u64 (sr ((8 * F.length : Nat) : Int) 40)) (hv := fun _ => run_shr (n := 40) (by decide) rfl rfl rfl)
   refine MW ?_ (v := .int .u8 ((u8 ((8 * F.length) / 1099511627776)).toNat : Int)) (hv := by intro W; rw [← w8_nat (8 * F.length) 40 1099511627776 (by decide)]; exact run_c8 rfl rfl)
   refine MD 0 ?_
   refine MO (m := [u8 ((8 * F.length) / 1099511627776)]) (n := 1) (z := #[.int .u8 ((u8 ((8 * F.length) / 1099511627776)).toNat : Int)]) ?_
   intro v43_12
   refine MA 1 (xs := (((hr4 F ++ [128] ++ List.replicate (zc4 (hr4 F).length) 0) ++ [u8 ((8 * F.length) / 72057594037927936)]) ++ [u8 ((8 * F.length) / 281474976710656)])) (ys := [u8 ((8 * F.length) / 1099511627776)]) (fun W hS => (hS.osl (i := 0) rfl)) (by first | omega | (simp only [List.length_append, List.length_cons, List.length_nil, List.length_replicate, List.length_drop]; omega)) ?_
   intro v44_13
   refine MV ?_
   refine MZ fun W hS => ?_
   go_wp2_with fail
   rw [rounds_succ]
   go_upto_region 9 with fail
   refine RL hS ?_
   clear hS
   refine MV ?_
   refine MV ?_
   refine MV ?_
   refine MV ?_
   refine MF (v := .int .i64 (F.length : Int)) (fun W hS => run_at rfl rfl (by rw [blk_cell (blk_step hkB hS.ext)]; exact hc_count) (by kernel_rfl)) ?_
   refine MW ?_ (v := .int .u64 ((F.length : Nat) : Int)) (hv := by intro W; go_simp; (try simp only [IntKind.wrap_u64]); omega)
   refine MW ?_ (v := .int .u64 ((8 * F.length : Nat) : Int)) (hv := by intro W; rw [show ((8 * F.length : Nat) : Int) = sl ((F.length : Nat) : Int) 3 from (by unfold sl; rw [IntKind.wrap_u64]; omega)]; exact run_shl (n := 3) (by decide) rfl rfl rfl)
   refine MW ?_ (v := .int .i64 4)
   refine MW ?_ (v := .int .i64 32)
   refine MW ?_ (v := .int .u64 (sr ((8 * F.length : Nat) : Int) 32)) (hv := fun _ => run_shr (n := 32) (by decide) rfl rfl rfl)
   refine MW ?_ (v := .int .u8 ((u8 ((8 * F.length) / 4294967296)).toNat : Int)) (hv := by intro W; rw [← w8_nat (8 * F.length) 32 4294967296 (by decide)]; exact run_c8 rfl rfl)
   refine MD 0 ?_
   refine MO (m := [u8 ((8 * F.length) / 4294967296)]) (n := 1) (z := #[.int .u8 ((u8 ((8 * F.length) / 4294967296)).toNat : Int)]) ?_
   intro v43_14
   refine MA 1 (xs := ((((hr4 F ++ [128] ++ List.replicate (zc4 (hr4 F).length) 0) ++ [u8 ((8 * F.length) / 72057594037927936)]) ++ [u8 ((8 * F.length) / 281474976710656)]) ++ [u8 ((8 * F.length) / 1099511627776)])) (ys := [u8 ((8 * F.length) / 4294967296)]) (fun W hS => (hS.osl (i := 0) rfl)) (by first | omega | (simp only [List.length_append, List.length_cons, List.length_nil, List.length_replicate, List.length_drop]; omega)) ?_
   intro v44_15
   refine MV ?_
   refine MZ fun W hS => ?_
   go_wp2_with fail
   rw [rounds_succ]
   go_upto_region 9 with fail
   refine RL hS ?_
   clear hS
   refine MV ?_
   refine MV ?_
   refine MV ?_
   refine MV ?_
   refine MF (v := .int .i64 (F.length : Int)) (fun W hS => run_at rfl rfl (by rw [blk_cell (blk_step hkB hS.ext)]; exact hc_count) (by kernel_rfl)) ?_
   refine MW ?_ (v := .int .u64 ((F.length : Nat) : Int)) (hv := by intro W; go_simp; (try simp only [IntKind.wrap_u64]); omega)
   refine MW ?_ (v := .int .u64 ((8 * F.length : Nat) : Int)) (hv := by intro W; rw [show ((8 * F.length : Nat) : Int) = sl ((F.length : Nat) : Int) 3 from (by unfold sl; rw [IntKind.wrap_u64]; omega)]; exact run_shl (n := 3) (by decide) rfl rfl rfl)
   refine MW ?_ (v := .int .i64 3)
   refine MW ?_ (v := .int .i64 24)
   refine MW ?_ (v := .int .u64 (sr ((8 * F.length : Nat) : Int) 24)) (hv := fun _ => run_shr (n := 24) (by decide) rfl rfl rfl)
   refine MW ?_ (v := .int .u8 ((u8 ((8 * F.length) / 16777216)).toNat : Int)) (hv := by intro W; rw [← w8_nat (8 * F.length) 24 16777216 (by decide)]; exact run_c8 rfl rfl)
   refine MD 0 ?_
   refine MO (m := [u8 ((8 * F.length) / 16777216)]) (n := 1) (z := #[.int .u8 ((u8 ((8 * F.length) / 16777216)).toNat : Int)]) ?_
   intro v43_16
   refine MA 1 (xs := (((((hr4 F ++ [128] ++ List.replicate (zc4 (hr4 F).length) 0) ++ [u8 ((8 * F.length) / 72057594037927936)]) ++ [u8 ((8 * F.length) / 281474976710656)]) ++ [u8 ((8 * F.length) / 1099511627776)]) ++ [u8 ((8 * F.length) / 4294967296)])) (ys := [u8 ((8 * F.length) / 16777216)]) (fun W hS => (hS.osl (i := 0) rfl)) (by first | omega | (simp only [List.length_append, List.length_cons, List.length_nil, List.length_replicate, List.length_drop]; omega)) ?_
   intro v44_17
   refine MV ?_
   refine MZ fun W hS => ?_
   go_wp2_with fail
   rw [rounds_succ]
   go_upto_region 9 with fail
   refine RL hS ?_
   clear hS
   refine MV ?_
   refine MV ?_
   refine MV ?_
   refine MV ?_
   refine MF (v := .int .i64 (F.length : Int)) (fun W hS => run_at rfl rfl (by rw [blk_cell (blk_step hkB hS.ext)]; exact hc_count) (by kernel_rfl)) ?_
   refine MW ?_ (v := .int .u64 ((F.length : Nat) : Int)) (hv := by intro W; go_simp; (try simp only [IntKind.wrap_u64]); omega)
   refine MW ?_ (v := .int .u64 ((8 * F.length : Nat) : Int)) (hv := by intro W; rw [show ((8 * F.length : Nat) : Int) = sl ((F.length : Nat) : Int) 3 from (by unfold sl; rw [IntKind.wrap_u64]; omega)]; exact run_shl (n := 3) (by decide) rfl rfl rfl)
   refine MW ?_ (v := .int .i64 2)
   refine MW ?_ (v := .int .i64 16)
   refine MW ?_ (v := .int .u64 (sr ((8 * F.length : Nat) : Int) 16)) (hv := fun _ => run_shr (n := 16) (by decide) rfl rfl rfl)
   refine MW ?_ (v := .int .u8 ((u8 ((8 * F.length) / 65536)).toNat : Int)) (hv := by intro W; rw [← w8_nat (8 * F.length) 16 65536 (by decide)]; exact run_c8 rfl rfl)
   refine MD 0 ?_
   refine MO (m := [u8 ((8 * F.length) / 65536)]) (n := 1) (z := #[.int .u8 ((u8 ((8 * F.length) / 65536)).toNat : Int)]) ?_
   intro v43_18
   refine MA 1 (xs := ((((((hr4 F ++ [128] ++ List.replicate (zc4 (hr4 F).length) 0) ++ [u8 ((8 * F.length) / 72057594037927936)]) ++ [u8 ((8 * F.length) / 281474976710656)]) ++ [u8 ((8 * F.length) / 1099511627776)]) ++ [u8 ((8 * F.length) / 4294967296)]) ++ [u8 ((8 * F.length) / 16777216)])) (ys := [u8 ((8 * F.length) / 65536)]) (fun W hS => (hS.osl (i := 0) rfl)) (by first | omega | (simp only [List.length_append, List.length_cons, List.length_nil, List.length_replicate, List.length_drop]; omega)) ?_
   intro v44_19
   refine MV ?_
   refine MZ fun W hS => ?_
   go_wp2_with fail
   rw [rounds_succ]
   go_upto_region 9 with fail
   refine RL hS ?_
   clear hS
   refine MV ?_
   refine MV ?_
   refine MV ?_
   refine MV ?_
   refine MF (v := .int .i64 (F.length : Int)) (fun W hS => run_at rfl rfl (by rw [blk_cell (blk_step hkB hS.ext)]; exact hc_count) (by kernel_rfl)) ?_
   refine MW ?_ (v := .int .u64 ((F.length : Nat) : Int)) (hv := by intro W; go_simp; (try simp only [IntKind.wrap_u64]); omega)
   refine MW ?_ (v := .int .u64 ((8 * F.length : Nat) : Int)) (hv := by intro W; rw [show ((8 * F.length : Nat) : Int) = sl ((F.length : Nat) : Int) 3 from (by unfold sl; rw [IntKind.wrap_u64]; omega)]; exact run_shl (n := 3) (by decide) rfl rfl rfl)
   refine MW ?_ (v := .int .i64 1)
   refine MW ?_ (v := .int .i64 8)
   refine MW ?_ (v := .int .u64 (sr ((8 * F.length : Nat) : Int) 8)) (hv := fun _ => run_shr (n := 8) (by decide) rfl rfl rfl)
   refine MW ?_ (v := .int .u8 ((u8 ((8 * F.length) / 256)).toNat : Int)) (hv := by intro W; rw [← w8_nat (8 * F.length) 8 256 (by decide)]; exact run_c8 rfl rfl)
   refine MD 0 ?_
   refine MO (m := [u8 ((8 * F.length) / 256)]) (n := 1) (z := #[.int .u8 ((u8 ((8 * F.length) / 256)).toNat : Int)]) ?_
   intro v43_20
   refine MA 1 (xs := (((((((hr4 F ++ [128] ++ List.replicate (zc4 (hr4 F).length) 0) ++ [u8 ((8 * F.length) / 72057594037927936)]) ++ [u8 ((8 * F.length) / 281474976710656)]) ++ [u8 ((8 * F.length) / 1099511627776)]) ++ [u8 ((8 * F.length) / 4294967296)]) ++ [u8 ((8 * F.length) / 16777216)]) ++ [u8 ((8 * F.length) / 65536)])) (ys := [u8 ((8 * F.length) / 256)]) (fun W hS => (hS.osl (i := 0) rfl)) (by first | omega | (simp only [List.length_append, List.length_cons, List.length_nil, List.length_replicate, List.length_drop]; omega)) ?_
   intro v44_21
   refine MV ?_
   refine MZ fun W hS => ?_
   go_wp2_with fail
   rw [rounds_succ]
   go_upto_region 9 with fail
   refine RL hS ?_
   clear hS
   refine MV ?_
   refine MV ?_
   refine MV ?_
   refine MV ?_
   refine MF (v := .int .i64 (F.length : Int)) (fun W hS => run_at rfl rfl (by rw [blk_cell (blk_step hkB hS.ext)]; exact hc_count) (by kernel_rfl)) ?_
   refine MW ?_ (v := .int .u64 ((F.length : Nat) : Int)) (hv := by intro W; go_simp; (try simp only [IntKind.wrap_u64]); omega)
   refine MW ?_ (v := .int .u64 ((8 * F.length : Nat) : Int)) (hv := by intro W; rw [show ((8 * F.length : Nat) : Int) = sl ((F.length : Nat) : Int) 3 from (by unfold sl; rw [IntKind.wrap_u64]; omega)]; exact run_shl (n := 3) (by decide) rfl rfl rfl)
   refine MW ?_ (v := .int .i64 0)
   refine MW ?_ (v := .int .i64 0)
   refine MW ?_ (v := .int .u64 (sr ((8 * F.length : Nat) : Int) 0)) (hv := fun _ => run_shr (n := 0) (by decide) rfl rfl rfl)
   refine MW ?_ (v := .int .u8 ((u8 (8 * F.length)).toNat : Int)) (hv := by intro W; rw [← w8_nat0 (8 * F.length)]; exact run_c8 rfl rfl)
   refine MD 0 ?_
   refine MO (m := [u8 (8 * F.length)]) (n := 1) (z := #[.int .u8 ((u8 (8 * F.length)).toNat : Int)]) ?_
   intro v43_22
   refine MA 1 (xs := ((((((((hr4 F ++ [128] ++ List.replicate (zc4 (hr4 F).length) 0) ++ [u8 ((8 * F.length) / 72057594037927936)]) ++ [u8 ((8 * F.length) / 281474976710656)]) ++ [u8 ((8 * F.length) / 1099511627776)]) ++ [u8 ((8 * F.length) / 4294967296)]) ++ [u8 ((8 * F.length) / 16777216)]) ++ [u8 ((8 * F.length) / 65536)]) ++ [u8 ((8 * F.length) / 256)])) (ys := [u8 (8 * F.length)]) (fun W hS => (hS.osl (i := 0) rfl)) (by first | omega | (simp only [List.length_append, List.length_cons, List.length_nil, List.length_replicate, List.length_drop]; omega)) ?_
   intro v44_23
   refine MV ?_
   refine MZ fun W hS => ?_
   go_wp2_with fail
   rw [rounds_succ]
   go_upto_region 10 with fail
   refine RL hS ?_
   clear hS
   refine MV ?_
   refine MV ?_
   refine MV ?_
   refine MF (v := .agg (arrK .u32 8 (hw4 F))) (fun W hS => run_atrow (vs := (arrK .u32 8 (hw4 F)).toList) rfl rfl (fun i v hv => by rw [blk_cell (blk_step hkB hS.ext)]; exact hc_words i v (by simpa using hv)) (by kernel_rfl) (by first | kernel_rfl | (simp only [Array.length_toList]; rw [arrK_size]; kernel_rfl))) ?_
   refine MN (z := arrK .u32 8 (fun _ => 0)) (t := 194) ?_
   intro p5_24
   refine MR 0 ?_ 
   refine MZ fun W hS => ?_
   rw [be8_app, hN, ← pad_rest4, ← HPD.out] at hS
   rw [hw_pad4 F] at hS
   have hS := hS.read (i := 2) rfl (hS.osl (i := 2) rfl) sub_refl
   go_wp2_with fail
   go_loopw [3] (fun sv wr => ∃ (j : Nat) (u : Value), (j ≤ nb4 (hr4 F).length) ∧ (u = sv) ∧ SH [] w wr [.b p5_24 (arrK .u32 8 (Hs4 (pad4 F) (F.length / 64 + j))) 194, .s u (List.drop (64 * j) PD), .b p2_1 (arrK .u8 32 (fun _ => 0)) 23])
    (fun sv _ => slLen sv)
   case atStart => exact ⟨0, _, Nat.zero_le _, rfl, (hS.pick [0, 2, 3])⟩
   clear hS
   case round =>
    obtain ⟨j, u, hj, rfl, hS⟩ := hrel
    have lb := sl_len (hS.sl (i := 1) rfl)
    by_cases hjl : j < nb4 (hr4 F).length
    ·
     have _f := hjl
     have hz64 : 64 ≤ (List.drop (64 * j) PD).length := by rw [List.length_drop, hpl]; omega
     go_upto_region 11 with fail
     refine RL hS ?_
     clear hS
     refine MV ?_
     refine MF (v := .int .i64 ((List.drop (64 * j) PD).length : Int)) (fun W hS => run_lenA (hS.sl (i := 1) rfl) rfl rfl) ?_
     refine MW ?_ (v := .bool true) (hv := by intro W; go_simp; (try simp only [List.length_drop, hpl]); omega)
     refine MZ fun W hS => ?_
     go_upto_region 13 with fail
     refine RX 4 hS ?_
     clear hS
     refine ML 0 ?_
     refine MV ?_
     refine MH 1 64 (m' := (List.take 64 (List.drop (64 * j) PD))) (by exact hz64) ?_
     intro u56_25
     refine MC (v := .agg (arrK .u32 8 (prs4 (Hs4 (pad4 F) (F.length / 64 + j)) (bt (List.drop (64 * j) PD))))) (fun W hS => press4_t (Hs4 (pad4 F) (F.length / 64 + j)) (List.drop (64 * j) PD) (List.take 64 (List.drop (64 * j) PD)) u56_25 hz64 rfl W (hS.sl (i := 0) rfl) (GS_ext4 HG.out hS.ext)) ?_
     refine MZt ?_
     refine MR 1 ?_ 
     refine MZn fun W hS => ?_
     go_upto_region 12 with fail
     refine RL hS ?_
     clear hS
     refine MV ?_
     refine Mt 2 64 (m' := (List.drop (64 * (j + 1)) PD)) (by exact hz64) ?_ (hm := drop_next4 _ _)
     intro u53_26
     refine MV ?_
     refine MZ fun W hS => ?_
     have la := sl_len (hS.sl (i := 0) rfl)
     simp only [List.length_drop, hpl] at la lb
     rw [HPD.out, pad_next4, ← HPD.out] at hS
     go_wp2
     go_roundw
     case rel => exact ⟨j + 1, _, by omega, rfl, (hS.pick [2, 0, 4])⟩
     case measure => simp only [la, lb]; omega
    ·
     have _f := hjl
     obtain rfl : j = nb4 (hr4 F).length := by omega
     rw [pad_end4] at hS
     go_upto_region 11 with fail
     refine RL hS ?_
     clear hS
     refine MV ?_
     refine MF (v := .int .i64 ((List.drop (64 * nb4 (hr4 F).length) PD).length : Int)) (fun W hS => run_lenA (hS.sl (i := 1) rfl) rfl rfl) ?_
     refine MW ?_ (v := .bool false) (hv := by intro W; first | (go_simp; done) | (go_simp; (try simp only [List.length_drop, hpl]); omega))
     refine MZ fun W hS => ?_
     go_upto_region 14 with fail
     refine RL hS ?_
     clear hS
     refine MN (z := arrK .u8 32 (fun _ => 0)) (t := 23) ?_
     intro p6_27
     refine MZ fun W hS => ?_
     go_upto_region 15 with fail
     refine RL hS ?_
     clear hS
     refine ML 1 ?_
     refine MW ?_ (v := .int .i64 0)
     refine MZ fun W hS => ?_
     go_wp2_with fail
     go_loopw [59] (fun ii wr => ∃ (i : Nat), (i ≤ 8) ∧ (ii = .int .i64 (i : Int)) ∧ SH [] w wr [.b p6_27 (arrK .u8 32 (outp4 (Hs4 (pad4 F) (nb4 F.length)) (4 * i))) 23, .b p2_1 (arrK .u8 32 (fun _ => 0)) 23])
      (fun ii _ => 8 - (intOf ii).toNat)
     case atStart => exact ⟨0, Nat.zero_le _, rfl, (by rw [Nat.mul_zero, outp_zero4]; exact (hS.pick [0, 3]))⟩
     clear hS
     case round =>
      obtain ⟨i, hi, rfl, hS⟩ := hrel
      by_cases h8 : i < 8
      ·
       have _f := h8
       go_upto_region 16 with fail
       refine RL hS ?_
       clear hS
       refine MW ?_ (v := .bool true)
       refine MZ fun W hS => ?_
       go_upto_region 17 with fail
       refine RL hS ?_
       clear hS
       refine MV ?_
       refine MW ?_ (v := .int .u32 (Hs4 (pad4 F) (nb4 F.length) i)) (hv := fun _ => run_ixv (m := 8) h8 Tryz.underlying194 (by kernel_rfl) u32_agg rfl rfl rfl)
       refine MV ?_
       refine MV ?_
       refine MZ fun W hS => ?_
       go_upto_region 18 with fail
       refine RL hS ?_
       clear hS
       refine MV ?_
       refine MW ?_ (v := .int .i64 (((4 * i : Nat) : Int))) (hv := by intro W; go_simp; (try simp only [IntKind.wrap_u64, IntKind.wrap_i64]); (try omega))
       refine MV ?_
       refine MW ?_ (v := .int .i64 (((4 * i : Nat) : Int))) (hv := by intro W; go_simp; (try simp only [IntKind.wrap_u64, IntKind.wrap_i64]); (try omega))
       refine MW ?_ (v := .int .i64 (((4 * i + 1 : Nat) : Int))) (hv := by intro W; go_simp; (try simp only [IntKind.wrap_u64, IntKind.wrap_i64]); (try omega))
       refine MV ?_
       refine MW ?_ (v := .int .i64 (((4 * i : Nat) : Int))) (hv := by intro W; go_simp; (try simp only [IntKind.wrap_u64, IntKind.wrap_i64]); (try omega))
       refine MW ?_ (v := .int .i64 (((4 * i + 2 : Nat) : Int))) (hv := by intro W; go_simp; (try simp only [IntKind.wrap_u64, IntKind.wrap_i64]); (try omega))
       refine MV ?_
       refine MW ?_ (v := .int .i64 (((4 * i : Nat) : Int))) (hv := by intro W; go_simp; (try simp only [IntKind.wrap_u64, IntKind.wrap_i64]); (try omega))
       refine MW ?_ (v := .int .i64 (((4 * i + 3 : Nat) : Int))) (hv := by intro W; go_simp; (try simp only [IntKind.wrap_u64, IntKind.wrap_i64]); (try omega))
       refine MV ?_
       refine MW ?_ (v := .int .u32 (sr4 (Hs4 (pad4 F) (nb4 F.length) i) 24)) (hv := fun _ => run_shr4 (n := 24) (by decide) rfl rfl rfl)
       refine MW ?_ (v := .int .u8 (w8 (sr4 (Hs4 (pad4 F) (nb4 F.length) i) 24))) (hv := by intro W; exact run_c84 rfl rfl)
       refine MV ?_
       refine MW ?_ (v := .int .u32 (sr4 (Hs4 (pad4 F) (nb4 F.length) i) 16)) (hv := fun _ => run_shr4 (n := 16) (by decide) rfl rfl rfl)
       refine MW ?_ (v := .int .u8 (w8 (sr4 (Hs4 (pad4 F) (nb4 F.length) i) 16))) (hv := by intro W; exact run_c84 rfl rfl)
       refine MV ?_
       refine MW ?_ (v := .int .u32 (sr4 (Hs4 (pad4 F) (nb4 F.length) i) 8)) (hv := fun _ => run_shr4 (n := 8) (by decide) rfl rfl rfl)
       refine MW ?_ (v := .int .u8 (w8 (sr4 (Hs4 (pad4 F) (nb4 F.length) i) 8))) (hv := by intro W; exact run_c84 rfl rfl)
       refine MV ?_
       refine MW ?_ (v := .int .u8 (w8 (sr4 (Hs4 (pad4 F) (nb4 F.length) i) 0))) (hv := by intro W; rw [sr4_0]; exact run_c84 rfl rfl)
       refine MW ?_ (v := .pointer (some ⟨p6_27, 0 + (4 * i), none⟩)) (hv := fun _ => run_ixarr (m := 32) (by decide) (by omega) Tryz.underlying23 (by kernel_rfl) rfl rfl rfl)
       refine MP 0 (v := .int .u8 (w8 (sr4 (Hs4 (pad4 F) (nb4 F.length) i) 24))) (cs' := arrK .u8 32 (outp4 (Hs4 (pad4 F) (nb4 F.length)) (4 * i + 1))) ?_ (hs := by rw [arrK_size, Nat.zero_add]; omega) (hc := by rw [Nat.zero_add, arrK_set]; exact congrArg (arrK .u8 32) (outp_step4 (Hs4 (pad4 F) (nb4 F.length)) i 0 (by decide)))
       refine MW ?_ (v := .pointer (some ⟨p6_27, 0 + (4 * i + 1), none⟩)) (hv := fun _ => run_ixarr (m := 32) (by decide) (by omega) Tryz.underlying23 (by kernel_rfl) rfl rfl rfl)
       refine MP 0 (v := .int .u8 (w8 (sr4 (Hs4 (pad4 F) (nb4 F.length) i) 16))) (cs' := arrK .u8 32 (outp4 (Hs4 (pad4 F) (nb4 F.length)) (4 * i + 2))) ?_ (hs := by rw [arrK_size, Nat.zero_add]; omega) (hc := by rw [Nat.zero_add, arrK_set]; exact congrArg (arrK .u8 32) (outp_step4 (Hs4 (pad4 F) (nb4 F.length)) i 1 (by decide)))
       refine MW ?_ (v := .pointer (some ⟨p6_27, 0 + (4 * i + 2), none⟩)) (hv := fun _ => run_ixarr (m := 32) (by decide) (by omega) Tryz.underlying23 (by kernel_rfl) rfl rfl rfl)
       refine MP 0 (v := .int .u8 (w8 (sr4 (Hs4 (pad4 F) (nb4 F.length) i) 8))) (cs' := arrK .u8 32 (outp4 (Hs4 (pad4 F) (nb4 F.length)) (4 * i + 3))) ?_ (hs := by rw [arrK_size, Nat.zero_add]; omega) (hc := by rw [Nat.zero_add, arrK_set]; exact congrArg (arrK .u8 32) (outp_step4 (Hs4 (pad4 F) (nb4 F.length)) i 2 (by decide)))
       refine MW ?_ (v := .pointer (some ⟨p6_27, 0 + (4 * i + 3), none⟩)) (hv := fun _ => run_ixarr (m := 32) (by decide) (by omega) Tryz.underlying23 (by kernel_rfl) rfl rfl rfl)
       refine MP 0 (v := .int .u8 (w8 (sr4 (Hs4 (pad4 F) (nb4 F.length) i) 0))) (cs' := arrK .u8 32 (outp4 (Hs4 (pad4 F) (nb4 F.length)) (4 * i + 4))) ?_ (hs := by rw [arrK_size, Nat.zero_add]; omega) (hc := by rw [Nat.zero_add, arrK_set]; exact congrArg (arrK .u8 32) (outp_step4 (Hs4 (pad4 F) (nb4 F.length)) i 3 (by decide)))
       refine MZ fun W hS => ?_
       go_wp2
       go_roundw
       case rel => exact ⟨i + 1, by omega, by go_num, (by rw [show 4 * (i + 1) = 4 * i + 4 by omega]; exact hS)⟩
       case measure => simp [intOf]; omega
      ·
       have _f := h8
       obtain rfl : i = 8 := by omega
       rw [show 4 * 8 = 32 by rfl, outp_end4] at hS
       go_upto_region 16 with fail
       refine RL hS ?_
       clear hS
       refine MW ?_ (v := .bool false)
       refine MZ fun W hS => ?_
       go_upto_region 20 with fail
       refine RL hS ?_
       clear hS
       refine ML 0 ?_
       refine MR 1 ?_ 
       refine MZ fun W hS => ?_
       go_wp2
       refine bodyPost_ret (res_row rfl rfl (hS.blk (i := 1) rfl) (by kernel_rfl) (by rw [arrK_size]; kernel_rfl)) rfl ⟨rfl, hS.ext⟩
theorem sum4_c (ps : List (List UInt8)) (A : Option Addr) (c : Nat) (F : List UInt8) (hF : ps.flatten = F) (hlen : F.length ≤ 70368744177664) (hpn : ps.length ≤ 9223372036854775000) (w : World) (hps : ∀ i l, ps[i]? = some l → ∃ ad u, A = some ad ∧ w.cell? (ad.add i) = some u ∧ Sl w u l) (hG : GS4 w) :
  Calls Tryz.prog 45 #[.slice A ps.length c] w fun e w' => Ret (.agg (arrK .u8 32 (sm4 F))) w w' e := by
 have HG := Lib.hid hG
 have HPS := Lib.hid hps
 clear hG hps
 have hS := SH.nil [] w
 go_enter Tryz.func45, Tryz.ntmps45
 go_upto_region 0 with fail
 refine RL hS ?_
 clear hS
 refine MN (z := arrK .u8 32 (fun _ => 0)) (t := 23) ?_
 intro p2_1
 refine MZ fun W hS => ?_
 go_upto_region 1 with fail
 refine RL hS ?_
 clear hS
 refine ME (fun W hS => (new4_c W (GS_ext4 HG.out hS.ext)).mono fun e W' ⟨p, h1, h2, h3, h4⟩ => ⟨p, h1, (hS.new (x := .b p _ _) h3 h4.1 (fun k hk => by rw [List.mem_singleton.1 hk]; exact h2) rfl rfl).onil rfl⟩) ?_
 intro p6
 refine MV ?_
 refine MZ fun W hS => ?_
 go_upto_region 2 with fail
 refine RL hS ?_
 clear hS
 refine MV ?_
 refine MV ?_
 refine MW ?_ (v := .int .i64 0)
 refine MZ fun W hS => ?_
 go_wp2_with fail
 go_loopw [9] (fun ii wr => ∃ (i : Nat) (bv : Value), (i ≤ ps.length) ∧ (ii = .int .i64 (i : Int)) ∧ SH [] w wr [.b p6 (hcs bv (List.take i ps).flatten) 196, .o bv (hr4 (List.take i ps).flatten), .b p2_1 (arrK .u8 32 (fun _ => 0)) 23])
  (fun ii _ => ps.length - (intOf ii).toNat)
 case atStart => exact ⟨0, (.slice none 0 0), Nat.zero_le _, rfl, (by rw [List.take_zero, List.flatten_nil]; exact (hS.pick [1, 0, 2]))⟩
 clear hS
 case round =>
  obtain ⟨i, bv, hi, rfl, hS⟩ := hrel
  by_cases hlt : i < ps.length
  ·
   have _f := hlt
   obtain ⟨l_, hl_⟩ : ∃ l, ps[i]? = some l := ⟨_, List.getElem?_eq_getElem hlt⟩
   obtain ⟨ad_, u_, hA_, hc_, hu_⟩ := HPS.out i l_ hl_
   have hfl : (List.take i ps).flatten.length + l_.length ≤ F.length := by rw [← hF, ← List.length_append, ← flat_step hl_]; exact flat_len _ _
   go_upto_region 3 with fail
   refine RL hS ?_
   clear hS
   refine MW ?_ (v := .bool true)
   refine MZ fun W hS => ?_
   go_upto_region 4 with fail
   refine RL hS ?_
   clear hS
   refine MW ?_ (v := .pointer (some (ad_.add i))) (hv := fun _ => run_ixp (j := i) hlt rfl (by rw [← hA_]; rfl) rfl)
   refine MF (v := u_) (fun W hS => run_at rfl rfl (cell_ext hc_ hS.ext) (by kernel_rfl)) ?_
   refine MV ?_
   refine MZ fun W hS => ?_
   go_upto_region 5 with fail
   refine RL hS ?_
   clear hS
   refine MV ?_
   refine MV ?_
   refine ME (V := fun _ => .tuple #[]) (fun W hS => callX [2, 3, 1, 0] [4] ((hS.ent hu_).entp (gs4_holds HG.out)) (fun hS => write4_c p6 bv u_ (List.take i ps).flatten l_ (by omega) W hS) (fun _ => ⟨.inr ⟨rfl, rfl⟩, .inr ⟨rfl, rfl⟩, .inl (by simp), .inl (by simp), trivial⟩)) ?_
   intro v15
   refine MD 2 ?_
   refine MD 2 ?_
   refine MZ fun W hS => ?_
   go_wp2
   go_roundw
   case rel => exact ⟨i + 1, v15, by omega, by go_num, (by rw [flat_step hl_]; exact hS)⟩
   case measure => simp [intOf]; omega
  ·
   have _f := hlt
   obtain rfl : i = ps.length := by omega
   rw [List.take_length, hF] at hS
   go_upto_region 3 with fail
   refine RL hS ?_
   clear hS
   refine MW ?_ (v := .bool false)
   refine MZ fun W hS => ?_
   go_upto_region 7 with fail
   refine RL hS ?_
   clear hS
   refine MV ?_
   refine MC (v := .agg (arrK .u8 32 (sm4 F))) (fun W hS => sums4_c p6 bv F hlen W (hS.blk (i := 0) rfl) (hS.osl (i := 1) rfl) (GS_ext4 HG.out hS.ext)) ?_
   refine MR 2 ?_ 
   refine MZ fun W hS => ?_
   go_wp2
   refine bodyPost_ret (res_row rfl rfl (hS.blk (i := 2) rfl) (by kernel_rfl) (by rw [arrK_size]; kernel_rfl)) rfl ⟨rfl, hS.ext⟩
end Go.Proofs.YtejkmhgkkibafaaGreatDoor
