/- sha2: the sum of what has been written; the sum of parts. Conditions: the tables hold their numbers. A leaf's and a proof's cells. No conditions. the document's turn of a word of 32 bits, by numbers of the type int. Conditions: the number is a word. -/
import Derived.Test.YtejkmhgkkibafaaGreatDoorJ24
import Derived.Test.YtejkmhgkkibafaaGreatDoorJ6
import Derived.Test.YtejkmhgkkibafaaGreatDoorJ9
set_option linter.unusedSimpArgs false
set_option linter.unusedVariables false
namespace Go.Proofs.YtejkmhgkkibafaaGreatDoor
section
set_option maxHeartbeats 1500000
set_option maxRecDepth 100000
open Go.RowKit
attribute [local irreducible] wpList J0k wpX
theorem Q3f {w : World} {o : Oper} {a : Act} {x : Operand} {p : Int} (ho : o.op = .convert 193 5 x) (hx : a.eval x = .int .u32 p) : (execOp a.eval o).run Tryz.prog w = .ok (.value (.int .u8 (w8 p))) w := by
 simp [execOp, ho, hx, convert, run_underlying Tryz.underlying5, run_underlying Tryz.underlying193, Sem.run_bind, Conv.intToInt, w8]
theorem Y41 {w : World} : (isAgg 193).run Tryz.prog w = .ok false w := by
 simp [isAgg, run_underlying Tryz.underlying193, Sem.run_bind]
theorem V3x (x : Int) : sr4 x 0 = x := by unfold sr4; simp

theorem Y42 (p : Nat) (v : Value) (F : List UInt8) (hlen : F.length ≤ 70368744177664) (w : World) (hkB : Blk w p (hcs v F) 196) (hrS : Sl w v (hr4 F)) (hG : GS4 w) :
  Calls Tryz.prog 86 #[.pointer (some ⟨p, 0, none⟩)] w fun e w' => Ret (.agg (J0 .u8 32 (sm4 F))) w w' e := by
 have HG := Lib.hid hG
 clear hG
 have hS := SH.nil [] w
 have hl3 := Z1s F
 have hN : zc4 (hr4 F).length = zc4 F.length := by rw [J8i, Y0g]
 have hzc := (J9g (hr4 F).length).2
 obtain ⟨PD, hPD⟩ : ∃ PD, PD = (J4 F).drop (64 * (F.length / 64)) := ⟨_, rfl⟩
 have hpl : PD.length = 64 * nb4 (hr4 F).length := by have h1 := Q2r F; have h2 := Z0a F; rw [hPD, List.length_drop, h1]; omega
 have HPD := Lib.hid hPD
 clear hPD
 go_enter Tryz.func86, Tryz.ntmps86
 go_upto_region 0 with fail
 refine RL hS ?_
 clear hS
 refine MN (z := J0 .u8 32 (fun _ => 0)) (t := 23) ?_
 intro J0a
 refine MZ fun W hS => ?_
 go_upto_region 3 with fail
 refine RL hS ?_
 clear hS
 refine MO (m := []) (n := 0) (z := #[]) ?_
 intro V6t
 refine MV ?_
 refine MV ?_
 refine MV ?_
 refine MF (v := v) (fun W hS => V2 rfl rfl (by rw [Q6 (J1 hkB hS.ext)]; exact Q3e) (by kernel_rfl)) ?_
 refine MA 0 (xs := []) (ys := (hr4 F)) (fun W hS => (Q22 hrS hS.ext)) (by first | omega | (simp only [List.length_append, List.length_cons, List.length_nil, List.length_replicate, List.length_drop]; omega)) ?_
 intro V6u
 refine MT (fun W hS => by rw [List.nil_append] at hS; exact hS) ?_
 refine MO (m := [128]) (n := 1) (z := #[.int .u8 128]) ?_
 intro V6v
 refine MA 1 (xs := (hr4 F)) (ys := [128]) (fun W hS => (hS.osl (i := 0) rfl)) (by first | omega | (simp only [List.length_append, List.length_cons, List.length_nil, List.length_replicate, List.length_drop]; omega)) ?_
 intro V6w
 refine MV ?_
 refine MZ fun W hS => ?_
 go_wp2_with fail
 go_loopw [3] (fun sv wr => ∃ (k : Nat) (bv : Value), (k ≤ zc4 (hr4 F).length) ∧ (bv = sv) ∧ SH [] w wr [.o bv (hr4 F ++ [128] ++ List.replicate k 0), .b J0a (J0 .u8 32 (fun _ => 0)) 23])
  (fun sv _ => F.length + 300 - Q2q sv)
 case atStart => exact ⟨0, _, Nat.zero_le _, rfl, (by have h_ := (hS.pick [1, 2]); rw [List.replicate_zero, List.append_nil]; exact h_)⟩
 clear hS
 case round =>
  obtain ⟨k, bv, hk, rfl, hS⟩ := hrel
  have lb := J78 (hS.osl (i := 0) rfl)
  by_cases hz : k < zc4 (hr4 F).length
  ·
   have _f := hz
   have hz2 := Y0h hz
   go_upto_region 4 with fail
   refine RL hS ?_
   clear hS
   refine MV ?_
   refine MF (v := .int .i64 ((hr4 F ++ [128] ++ List.replicate k 0).length : Int)) (fun W hS => J12 (hS.osl (i := 0) rfl) rfl rfl) ?_
   refine MW ?_ (v := .int .i64 ((((hr4 F).length + 1 + k) % 64 : Nat) : Int)) (hv := by intro W; go_simp; (try simp only [List.length_append, List.length_cons, List.length_nil, List.length_replicate]); rw [Int.tmod_eq_emod_of_nonneg (by omega)]; omega)
   refine MW ?_ (v := .bool true) (hv := by intro W; go_simp; omega)
   refine MZ fun W hS => ?_
   go_upto_region 5 with fail
   refine RL hS ?_
   clear hS
   refine MV ?_
   refine MO (m := [0]) (n := 1) (z := #[.int .u8 0]) ?_
   intro V6x
   refine MA 1 (xs := (hr4 F ++ [128] ++ List.replicate k 0)) (ys := [0]) (fun W hS => (hS.osl (i := 0) rfl)) (by first | omega | (simp only [List.length_append, List.length_cons, List.length_nil, List.length_replicate, List.length_drop]; omega)) ?_
   intro V6y
   refine MV ?_
   refine MZ fun W hS => ?_
   have la := J78 (hS.osl (i := 1) rfl)
   simp only [List.length_append, List.length_cons, List.length_nil, List.length_replicate] at la lb
   go_wp2
   go_roundw
   case rel => exact ⟨k + 1, _, by omega, rfl, (by have h_ := (hS.pick [1, 2]); rw [List.append_assoc _ (List.replicate k 0), ← List.replicate_succ'] at h_; exact h_)⟩
   case measure => simp only [la, lb]; omega
  have _f := hz
  obtain rfl : k = zc4 (hr4 F).length := by omega
  have hz2 := (J9g (hr4 F).length).1
  go_upto_region 4 with fail
  refine RL hS ?_
  clear hS
  refine MV ?_
  refine MF (v := .int .i64 ((hr4 F ++ [128] ++ List.replicate (zc4 (hr4 F).length) 0).length : Int)) (fun W hS => J12 (hS.osl (i := 0) rfl) rfl rfl) ?_
  refine MW ?_ (v := .int .i64 ((((hr4 F).length + 1 + zc4 (hr4 F).length) % 64 : Nat) : Int)) (hv := by intro W; go_simp; (try simp only [List.length_append, List.length_cons, List.length_nil, List.length_replicate]); rw [Int.tmod_eq_emod_of_nonneg (by omega)]; omega)
  refine MW ?_ (v := .bool false) (hv := by intro W; first | (go_simp; done) | (go_simp; omega))
  refine MZ fun W hS => ?_
  go_wp2_with fail
  refine wp_loop_rounds 9 ?_
  rw [rounds_succ]
  go_upto_region 9 with fail
  refine RL hS ?_
  clear hS
  refine MV ?_
  refine MV ?_
  refine MV ?_
  refine MV ?_
  refine MF (v := .int .i64 (F.length : Int)) (fun W hS => V2 rfl rfl (by rw [Q6 (J1 hkB hS.ext)]; exact J4o) (by kernel_rfl)) ?_
  refine MW ?_ (v := .int .u64 ((F.length : Nat) : Int)) (hv := by intro W; go_simp; (try simp only [IntKind.wrap_u64]); omega)
  refine MW ?_ (v := .int .u64 ((8 * F.length : Nat) : Int)) (hv := by intro W; rw [show ((8 * F.length : Nat) : Int) = sl ((F.length : Nat) : Int) 3 from (by unfold sl; rw [IntKind.wrap_u64]; omega)]; exact J4e (n := 3) (by decide) rfl rfl rfl)
  refine MW ?_ (v := .int .i64 7)
  refine MW ?_ (v := .int .i64 56)
  refine MW ?_ (v := .int .u64 (sr ((8 * F.length : Nat) : Int) 56)) (hv := fun _ => J18 (n := 56) (by decide) rfl rfl rfl)
  refine MW ?_ (v := .int .u8 ((u8 ((8 * F.length) / 72057594037927936)).toNat : Int)) (hv := by intro W; rw [← J41 (8 * F.length) 56 72057594037927936 (by decide)]; exact J38 rfl rfl)
  refine MO (m := [u8 ((8 * F.length) / 72057594037927936)]) (n := 1) (z := #[.int .u8 ((u8 ((8 * F.length) / 72057594037927936)).toNat : Int)]) ?_
  intro V3y
  refine MA 1 (xs := (hr4 F ++ [128] ++ List.replicate (zc4 (hr4 F).length) 0)) (ys := [u8 ((8 * F.length) / 72057594037927936)]) (fun W hS => (hS.osl (i := 0) rfl)) (by first | omega | (simp only [List.length_append, List.length_cons, List.length_nil, List.length_replicate, List.length_drop]; omega)) ?_
  intro V3z
  refine MV ?_
  refine MZ fun W hS => ?_
  go_wp2_with fail
  rw [rounds_succ]
  go_upto_region 9 with fail
  refine RL hS ?_
  clear hS
  refine MV ?_
  refine MV ?_
  refine MV ?_
  refine MV ?_
  refine MF (v := .int .i64 (F.length : Int)) (fun W hS => V2 rfl rfl (by rw [Q6 (J1 hkB hS.ext)]; exact J4o) (by kernel_rfl)) ?_
  refine MW ?_ (v := .int .u64 ((F.length : Nat) : Int)) (hv := by intro W; go_simp; (try simp only [IntKind.wrap_u64]); omega)
  refine MW ?_ (v := .int .u64 ((8 * F.length : Nat) : Int)) (hv := by intro W; rw [show ((8 * F.length : Nat) : Int) = sl ((F.length : Nat) : Int) 3 from (by unfold sl; rw [IntKind.wrap_u64]; omega)]; exact J4e (n := 3) (by decide) rfl rfl rfl)
  refine MW ?_ (v := .int .i64 6)
  refine MW ?_ (v := .int .i64 48)
  refine MW ?_ (v := .int .u64 (sr ((8 * F.length : Nat) : Int) 48)) (hv := fun _ => J18 (n := 48) (by decide) rfl rfl rfl)
  refine MW ?_ (v := .int .u8 ((u8 ((8 * F.length) / 281474976710656)).toNat : Int)) (hv := by intro W; rw [← J41 (8 * F.length) 48 281474976710656 (by decide)]; exact J38 rfl rfl)
  refine MD 0 ?_
  refine MO (m := [u8 ((8 * F.length) / 281474976710656)]) (n := 1) (z := #[.int .u8 ((u8 ((8 * F.length) / 281474976710656)).toNat : Int)]) ?_
  intro Y9u
  refine MA 1 (xs := ((hr4 F ++ [128] ++ List.replicate (zc4 (hr4 F).length) 0) ++ [u8 ((8 * F.length) / 72057594037927936)])) (ys := [u8 ((8 * F.length) / 281474976710656)]) (fun W hS => (hS.osl (i := 0) rfl)) (by first | omega | (simp only [List.length_append, List.length_cons, List.length_nil, List.length_replicate, List.length_drop]; omega)) ?_
  intro Y9v
  refine MV ?_
  refine MZ fun W hS => ?_
  go_wp2_with fail
  rw [rounds_succ]
  go_upto_region 9 with fail
  refine RL hS ?_
  clear hS
  refine MV ?_
  refine MV ?_
  refine MV ?_
  refine MV ?_
  refine MF (v := .int .i64 (F.length : Int)) (fun W hS => V2 rfl rfl (by rw [Q6 (J1 hkB hS.ext)]; exact J4o) (by kernel_rfl)) ?_
  refine MW ?_ (v := .int .u64 ((F.length : Nat) : Int)) (hv := by intro W; go_simp; (try simp only [IntKind.wrap_u64]); omega)
  refine MW ?_ (v := .int .u64 ((8 * F.length : Nat) : Int)) (hv := by intro W; rw [show ((8 * F.length : Nat) : Int) = sl ((F.length : Nat) : Int) 3 from (by unfold sl; rw [IntKind.wrap_u64]; omega)]; exact J4e (n := 3) (by decide) rfl rfl rfl)
  refine MW ?_ (v := .int .i64 5)
  refine MW ?_ (v := .int .i64 40)
  refine MW ?_ (v := .int .u64 (sr ((8 * F.length : Nat) : Int) 40)) (hv := fun _ => J18 (n := 40) (by decide) rfl rfl rfl)
  refine MW ?_ (v := .int .u8 ((u8 ((8 * F.length) / 1099511627776)).toNat : Int)) (hv := by intro W; rw [← J41 (8 * F.length) 40 1099511627776 (by decide)]; exact J38 rfl rfl)
  refine MD 0 ?_
  refine MO (m := [u8 ((8 * F.length) / 1099511627776)]) (n := 1) (z := #[.int .u8 ((u8 ((8 * F.length) / 1099511627776)).toNat : Int)]) ?_
  intro Y9w
  refine MA 1 (xs := (((hr4 F ++ [128] ++ List.replicate (zc4 (hr4 F).length) 0) ++ [u8 ((8 * F.length) / 72057594037927936)]) ++ [u8 ((8 * F.length) / 281474976710656)])) (ys := [u8 ((8 * F.length) / 1099511627776)]) (fun W hS => (hS.osl (i := 0) rfl)) (by first | omega | (simp only [List.length_append, List.length_cons, List.length_nil, List.length_replicate, List.length_drop]; omega)) ?_
  intro Y9x
  refine MV ?_
  refine MZ fun W hS => ?_
  go_wp2_with fail
  rw [rounds_succ]
  go_upto_region 9 with fail
  refine RL hS ?_
  clear hS
  refine MV ?_
  refine MV ?_
  refine MV ?_
  refine MV ?_
  refine MF (v := .int .i64 (F.length : Int)) (fun W hS => V2 rfl rfl (by rw [Q6 (J1 hkB hS.ext)]; exact J4o) (by kernel_rfl)) ?_
  refine MW ?_ (v := .int .u64 ((F.length : Nat) : Int)) (hv := by intro W; go_simp; (try simp only [IntKind.wrap_u64]); omega)
  refine MW ?_ (v := .int .u64 ((8 * F.length : Nat) : Int)) (hv := by intro W; rw [show ((8 * F.length : Nat) : Int) = sl ((F.length : Nat) : Int) 3 from (by unfold sl; rw [IntKind.wrap_u64]; omega)]; exact J4e (n := 3) (by decide) rfl rfl rfl)
  refine MW ?_ (v := .int .i64 4)
  refine MW ?_ (v := .int .i64 32)
  refine MW ?_ (v := .int .u64 (sr ((8 * F.length : Nat) : Int) 32)) (hv := fun _ => J18 (n := 32) (by decide) rfl rfl rfl)
  refine MW ?_ (v := .int .u8 ((u8 ((8 * F.length) / 4294967296)).toNat : Int)) (hv := by intro W; rw [← J41 (8 * F.length) 32 4294967296 (by decide)]; exact J38 rfl rfl)
  refine MD 0 ?_
  refine MO (m := [u8 ((8 * F.length) / 4294967296)]) (n := 1) (z := #[.int .u8 ((u8 ((8 * F.length) / 4294967296)).toNat : Int)]) ?_
  intro Y9y
  refine MA 1 (xs := ((((hr4 F ++ [128] ++ List.replicate (zc4 (hr4 F).length) 0) ++ [u8 ((8 * F.length) / 72057594037927936)]) ++ [u8 ((8 * F.length) / 281474976710656)]) ++ [u8 ((8 * F.length) / 1099511627776)])) (ys := [u8 ((8 * F.length) / 4294967296)]) (fun W hS => (hS.osl (i := 0) rfl)) (by first | omega | (simp only [List.length_append, List.length_cons, List.length_nil, List.length_replicate, List.length_drop]; omega)) ?_
  intro Y9z
  refine MV ?_
  refine MZ fun W hS => ?_
  go_wp2_with fail
  rw [rounds_succ]
  go_upto_region 9 with fail
  refine RL hS ?_
  clear hS
  refine MV ?_
  refine MV ?_
  refine MV ?_
  refine MV ?_
  refine MF (v := .int .i64 (F.length : Int)) (fun W hS => V2 rfl rfl (by rw [Q6 (J1 hkB hS.ext)]; exact J4o) (by kernel_rfl)) ?_
  refine MW ?_ (v := .int .u64 ((F.length : Nat) : Int)) (hv := by intro W; go_simp; (try simp only [IntKind.wrap_u64]); omega)
  refine MW ?_ (v := .int .u64 ((8 * F.length : Nat) : Int)) (hv := by intro W; rw [show ((8 * F.length : Nat) : Int) = sl ((F.length : Nat) : Int) 3 from (by unfold sl; rw [IntKind.wrap_u64]; omega)]; exact J4e (n := 3) (by decide) rfl rfl rfl)
  refine MW ?_ (v := .int .i64 3)
  refine MW ?_ (v := .int .i64 24)
  refine MW ?_ (v := .int .u64 (sr ((8 * F.length : Nat) : Int) 24)) (hv := fun _ => J18 (n := 24) (by decide) rfl rfl rfl)
  refine MW ?_ (v := .int .u8 ((u8 ((8 * F.length) / 16777216)).toNat : Int)) (hv := by intro W; rw [← J41 (8 * F.length) 24 16777216 (by decide)]; exact J38 rfl rfl)
  refine MD 0 ?_
  refine MO (m := [u8 ((8 * F.length) / 16777216)]) (n := 1) (z := #[.int .u8 ((u8 ((8 * F.length) / 16777216)).toNat : Int)]) ?_
  intro V00
  refine MA 1 (xs := (((((hr4 F ++ [128] ++ List.replicate (zc4 (hr4 F).length) 0) ++ [u8 ((8 * F.length) / 72057594037927936)]) ++ [u8 ((8 * F.length) / 281474976710656)]) ++ [u8 ((8 * F.length) / 1099511627776)]) ++ [u8 ((8 * F.length) / 4294967296)])) (ys := [u8 ((8 * F.length) / 16777216)]) (fun W hS => (hS.osl (i := 0) rfl)) (by first | omega | (simp only [List.length_append, List.length_cons, List.length_nil, List.length_replicate, List.length_drop]; omega)) ?_
  intro V01
  refine MV ?_
  refine MZ fun W hS => ?_
  go_wp2_with fail
  rw [rounds_succ]
  go_upto_region 9 with fail
  refine RL hS ?_
  clear hS
  refine MV ?_
  refine MV ?_
  refine MV ?_
  refine MV ?_
  refine MF (v := .int .i64 (F.length : Int)) (fun W hS => V2 rfl rfl (by rw [Q6 (J1 hkB hS.ext)]; exact J4o) (by kernel_rfl)) ?_
  refine MW ?_ (v := .int .u64 ((F.length : Nat) : Int)) (hv := by intro W; go_simp; (try simp only [IntKind.wrap_u64]); omega)
  refine MW ?_ (v := .int .u64 ((8 * F.length : Nat) : Int)) (hv := by intro W; rw [show ((8 * F.length : Nat) : Int) = sl ((F.length : Nat) : Int) 3 from (by unfold sl; rw [IntKind.wrap_u64]; omega)]; exact J4e (n := 3) (by decide) rfl rfl rfl)
  refine MW ?_ (v := .int .i64 2)
  refine MW ?_ (v := .int .i64 16)
  refine MW ?_ (v := .int .u64 (sr ((8 * F.length : Nat) : Int) 16)) (hv := fun _ => J18 (n := 16) (by decide) rfl rfl rfl)
  refine MW ?_ (v := .int .u8 ((u8 ((8 * F.length) / 65536)).toNat : Int)) (hv := by intro W; rw [← J41 (8 * F.length) 16 65536 (by decide)]; exact J38 rfl rfl)
  refine MD 0 ?_
  refine MO (m := [u8 ((8 * F.length) / 65536)]) (n := 1) (z := #[.int .u8 ((u8 ((8 * F.length) / 65536)).toNat : Int)]) ?_
  intro V02
  refine MA 1 (xs := ((((((hr4 F ++ [128] ++ List.replicate (zc4 (hr4 F).length) 0) ++ [u8 ((8 * F.length) / 72057594037927936)]) ++ [u8 ((8 * F.length) / 281474976710656)]) ++ [u8 ((8 * F.length) / 1099511627776)]) ++ [u8 ((8 * F.length) / 4294967296)]) ++ [u8 ((8 * F.length) / 16777216)])) (ys := [u8 ((8 * F.length) / 65536)]) (fun W hS => (hS.osl (i := 0) rfl)) (by first | omega | (simp only [List.length_append, List.length_cons, List.length_nil, List.length_replicate, List.length_drop]; omega)) ?_
  intro V03
  refine MV ?_
  refine MZ fun W hS => ?_
  go_wp2_with fail
  rw [rounds_succ]
  go_upto_region 9 with fail
  refine RL hS ?_
  clear hS
  refine MV ?_
  refine MV ?_
  refine MV ?_
  refine MV ?_
  refine MF (v := .int .i64 (F.length : Int)) (fun W hS => V2 rfl rfl (by rw [Q6 (J1 hkB hS.ext)]; exact J4o) (by kernel_rfl)) ?_
  refine MW ?_ (v := .int .u64 ((F.length : Nat) : Int)) (hv := by intro W; go_simp; (try simp only [IntKind.wrap_u64]); omega)
  refine MW ?_ (v := .int .u64 ((8 * F.length : Nat) : Int)) (hv := by intro W; rw [show ((8 * F.length : Nat) : Int) = sl ((F.length : Nat) : Int) 3 from (by unfold sl; rw [IntKind.wrap_u64]; omega)]; exact J4e (n := 3) (by decide) rfl rfl rfl)
  refine MW ?_ (v := .int .i64 1)
  refine MW ?_ (v := .int .i64 8)
  refine MW ?_ (v := .int .u64 (sr ((8 * F.length : Nat) : Int) 8)) (hv := fun _ => J18 (n := 8) (by decide) rfl rfl rfl)
  refine MW ?_ (v := .int .u8 ((u8 ((8 * F.length) / 256)).toNat : Int)) (hv := by intro W; rw [← J41 (8 * F.length) 8 256 (by decide)]; exact J38 rfl rfl)
  refine MD 0 ?_
  refine MO (m := [u8 ((8 * F.length) / 256)]) (n := 1) (z := #[.int .u8 ((u8 ((8 * F.length) / 256)).toNat : Int)]) ?_
  intro V04
  refine MA 1 (xs := (((((((hr4 F ++ [128] ++ List.replicate (zc4 (hr4 F).length) 0) ++ [u8 ((8 * F.length) / 72057594037927936)]) ++ [u8 ((8 * F.length) / 281474976710656)]) ++ [u8 ((8 * F.length) / 1099511627776)]) ++ [u8 ((8 * F.length) / 4294967296)]) ++ [u8 ((8 * F.length) / 16777216)]) ++ [u8 ((8 * F.length) / 65536)])) (ys := [u8 ((8 * F.length) / 256)]) (fun W hS => (hS.osl (i := 0) rfl)) (by first | omega | (simp only [List.length_append, List.length_cons, List.length_nil, List.length_replicate, List.length_drop]; omega)) ?_
  intro Q4x
  refine MV ?_
  refine MZ fun W hS => ?_
  go_wp2_with fail
  rw [rounds_succ]
  go_upto_region 9 with fail
  refine RL hS ?_
  clear hS
  refine MV ?_
  refine MV ?_
  refine MV ?_
  refine MV ?_
  refine MF (v := .int .i64 (F.length : Int)) (fun W hS => V2 rfl rfl (by rw [Q6 (J1 hkB hS.ext)]; exact J4o) (by kernel_rfl)) ?_
  refine MW ?_ (v := .int .u64 ((F.length : Nat) : Int)) (hv := by intro W; go_simp; (try simp only [IntKind.wrap_u64]); omega)
  refine MW ?_ (v := .int .u64 ((8 * F.length : Nat) : Int)) (hv := by intro W; rw [show ((8 * F.length : Nat) : Int) = sl ((F.length : Nat) : Int) 3 from (by unfold sl; rw [IntKind.wrap_u64]; omega)]; exact J4e (n := 3) (by decide) rfl rfl rfl)
  refine MW ?_ (v := .int .i64 0)
  refine MW ?_ (v := .int .i64 0)
  refine MW ?_ (v := .int .u64 (sr ((8 * F.length : Nat) : Int) 0)) (hv := fun _ => J18 (n := 0) (by decide) rfl rfl rfl)
  refine MW ?_ (v := .int .u8 ((u8 (8 * F.length)).toNat : Int)) (hv := by intro W; rw [← Z3t (8 * F.length)]; exact J38 rfl rfl)
  refine MD 0 ?_
  refine MO (m := [u8 (8 * F.length)]) (n := 1) (z := #[.int .u8 ((u8 (8 * F.length)).toNat : Int)]) ?_
  intro V5v
  refine MA 1 (xs := ((((((((hr4 F ++ [128] ++ List.replicate (zc4 (hr4 F).length) 0) ++ [u8 ((8 * F.length) / 72057594037927936)]) ++ [u8 ((8 * F.length) / 281474976710656)]) ++ [u8 ((8 * F.length) / 1099511627776)]) ++ [u8 ((8 * F.length) / 4294967296)]) ++ [u8 ((8 * F.length) / 16777216)]) ++ [u8 ((8 * F.length) / 65536)]) ++ [u8 ((8 * F.length) / 256)])) (ys := [u8 (8 * F.length)]) (fun W hS => (hS.osl (i := 0) rfl)) (by first | omega | (simp only [List.length_append, List.length_cons, List.length_nil, List.length_replicate, List.length_drop]; omega)) ?_
  intro V5w
  refine MV ?_
  refine MZ fun W hS => ?_
  go_wp2_with fail
  rw [rounds_succ]
  go_upto_region 10 with fail
  refine RL hS ?_
  clear hS
  refine MV ?_
  refine MV ?_
  refine MV ?_
  refine MF (v := .agg (J0 .u32 8 (hw4 F))) (fun W hS => J0o (vs := (J0 .u32 8 (hw4 F)).toList) rfl rfl (fun i v hv => by rw [Q6 (J1 hkB hS.ext)]; exact Z05 i v (by simpa using hv)) (by kernel_rfl) (by first | kernel_rfl | (simp only [Array.length_toList]; rw [J2]; kernel_rfl))) ?_
  refine MN (z := J0 .u32 8 (fun _ => 0)) (t := 194) ?_
  intro V40
  refine MR 0 ?_ 
  refine MZ fun W hS => ?_
  rw [Q8b, hN, ← Z62, ← HPD.out] at hS
  rw [Y43 F] at hS
  have hS := hS.read (i := 2) rfl (hS.osl (i := 2) rfl) J2r
  go_wp2_with fail
  go_loopw [3] (fun sv wr => ∃ (j : Nat) (u : Value), (j ≤ nb4 (hr4 F).length) ∧ (u = sv) ∧ SH [] w wr [.b V40 (J0 .u32 8 (Y3 (J4 F) (F.length / 64 + j))) 194, .s u (List.drop (64 * j) PD), .b J0a (J0 .u8 32 (fun _ => 0)) 23])
   (fun sv _ => Q2q sv)
  case atStart => exact ⟨0, _, Nat.zero_le _, rfl, (hS.pick [0, 2, 3])⟩
  clear hS
  case round =>
   obtain ⟨j, u, hj, rfl, hS⟩ := hrel
   have lb := J78 (hS.sl (i := 1) rfl)
   by_cases hjl : j < nb4 (hr4 F).length
   ·
    have _f := hjl
    have hz64 : 64 ≤ (List.drop (64 * j) PD).length := by rw [List.length_drop, hpl]; omega
    go_upto_region 11 with fail
    refine RL hS ?_
    clear hS
    refine MV ?_
    refine MF (v := .int .i64 ((List.drop (64 * j) PD).length : Int)) (fun W hS => J12 (hS.sl (i := 1) rfl) rfl rfl) ?_
    refine MW ?_ (v := .bool true) (hv := by intro W; go_simp; (try simp only [List.length_drop, hpl]); omega)
    refine MZ fun W hS => ?_
    go_upto_region 13 with fail
    refine RX 4 hS ?_
    clear hS
    refine ML 0 ?_
    refine MV ?_
    refine MH 1 64 (m' := (List.take 64 (List.drop (64 * j) PD))) (by exact hz64) ?_
    intro V05
    refine MC (v := .agg (J0 .u32 8 (J79 (Y3 (J4 F) (F.length / 64 + j)) (bt (List.drop (64 * j) PD))))) (fun W hS => Z09 (Y3 (J4 F) (F.length / 64 + j)) (List.drop (64 * j) PD) (List.take 64 (List.drop (64 * j) PD)) V05 hz64 rfl W (hS.sl (i := 0) rfl) (J1a HG.out hS.ext)) ?_
    refine MZt ?_
    refine MR 1 ?_ 
    refine MZn fun W hS => ?_
    go_upto_region 12 with fail
    refine RL hS ?_
    clear hS
    refine MV ?_
    refine Mt 2 64 (m' := (List.drop (64 * (j + 1)) PD)) (by exact hz64) ?_ (hm := Q4w _ _)
    intro V5x
    refine MV ?_
    refine MZ fun W hS => ?_
    have la := J78 (hS.sl (i := 0) rfl)
    simp only [List.length_drop, hpl] at la lb
    rw [HPD.out, Z63, ← HPD.out] at hS
    go_wp2
    go_roundw
    case rel => exact ⟨j + 1, _, by omega, rfl, (hS.pick [2, 0, 4])⟩
    case measure => simp only [la, lb]; omega
   have _f := hjl
   obtain rfl : j = nb4 (hr4 F).length := by omega
   rw [Z0a] at hS
   go_upto_region 11 with fail
   refine RL hS ?_
   clear hS
   refine MV ?_
   refine MF (v := .int .i64 ((List.drop (64 * nb4 (hr4 F).length) PD).length : Int)) (fun W hS => J12 (hS.sl (i := 1) rfl) rfl rfl) ?_
   refine MW ?_ (v := .bool false) (hv := by intro W; first | (go_simp; done) | (go_simp; (try simp only [List.length_drop, hpl]); omega))
   refine MZ fun W hS => ?_
   go_upto_region 14 with fail
   refine RL hS ?_
   clear hS
   refine MN (z := J0 .u8 32 (fun _ => 0)) (t := 23) ?_
   intro Z0b
   refine MZ fun W hS => ?_
   go_upto_region 15 with fail
   refine RL hS ?_
   clear hS
   refine ML 1 ?_
   refine MW ?_ (v := .int .i64 0)
   refine MZ fun W hS => ?_
   go_wp2_with fail
   go_loopw [59] (fun ii wr => ∃ (i : Nat), (i ≤ 8) ∧ (ii = .int .i64 (i : Int)) ∧ SH [] w wr [.b Z0b (J0 .u8 32 (J8p (Y3 (J4 F) (nb4 F.length)) (4 * i))) 23, .b J0a (J0 .u8 32 (fun _ => 0)) 23])
    (fun ii _ => 8 - (intOf ii).toNat)
   case atStart => exact ⟨0, Nat.zero_le _, rfl, (by rw [Nat.mul_zero, Z1t]; exact (hS.pick [0, 3]))⟩
   clear hS
   case round =>
    obtain ⟨i, hi, rfl, hS⟩ := hrel
    by_cases h8 : i < 8
    ·
     have _f := h8
     go_upto_region 16 with fail
     refine RL hS ?_
     clear hS
     refine MW ?_ (v := .bool true)
     refine MZ fun W hS => ?_
     go_upto_region 17 with fail
     refine RL hS ?_
     clear hS
     refine MV ?_
     refine MW ?_ (v := .int .u32 (Y3 (J4 F) (nb4 F.length) i)) (hv := fun _ => Q8c (m := 8) h8 Tryz.underlying194 (by kernel_rfl) Y41 rfl rfl rfl)
     refine MV ?_
     refine MV ?_
     refine MZ fun W hS => ?_
     go_upto_region 18 with fail
     refine RL hS ?_
     clear hS
     refine MV ?_
     refine MW ?_ (v := .int .i64 (((4 * i : Nat) : Int))) (hv := by intro W; go_simp; (try simp only [IntKind.wrap_u64, IntKind.wrap_i64]); (try omega))
     refine MV ?_
     refine MW ?_ (v := .int .i64 (((4 * i : Nat) : Int))) (hv := by intro W; go_simp; (try simp only [IntKind.wrap_u64, IntKind.wrap_i64]); (try omega))
     refine MW ?_ (v := .int .i64 (((4 * i + 1 : Nat) : Int))) (hv := by intro W; go_simp; (try simp only [IntKind.wrap_u64, IntKind.wrap_i64]); (try omega))
     refine MV ?_
     refine MW ?_ (v := .int .i64 (((4 * i : Nat) : Int))) (hv := by intro W; go_simp; (try simp only [IntKind.wrap_u64, IntKind.wrap_i64]); (try omega))
     refine MW ?_ (v := .int .i64 (((4 * i + 2 : Nat) : Int))) (hv := by intro W; go_simp; (try simp only [IntKind.wrap_u64, IntKind.wrap_i64]); (try omega))
     refine MV ?_
     refine MW ?_ (v := .int .i64 (((4 * i : Nat) : Int))) (hv := by intro W; go_simp; (try simp only [IntKind.wrap_u64, IntKind.wrap_i64]); (try omega))
     refine MW ?_ (v := .int .i64 (((4 * i + 3 : Nat) : Int))) (hv := by intro W; go_simp; (try simp only [IntKind.wrap_u64, IntKind.wrap_i64]); (try omega))
     refine MV ?_
     refine MW ?_ (v := .int .u32 (sr4 (Y3 (J4 F) (nb4 F.length) i) 24)) (hv := fun _ => J9d (n := 24) (by decide) rfl rfl rfl)
     refine MW ?_ (v := .int .u8 (w8 (sr4 (Y3 (J4 F) (nb4 F.length) i) 24))) (hv := by intro W; exact Q3f rfl rfl)
     refine MV ?_
     refine MW ?_ (v := .int .u32 (sr4 (Y3 (J4 F) (nb4 F.length) i) 16)) (hv := fun _ => J9d (n := 16) (by decide) rfl rfl rfl)
     refine MW ?_ (v := .int .u8 (w8 (sr4 (Y3 (J4 F) (nb4 F.length) i) 16))) (hv := by intro W; exact Q3f rfl rfl)
     refine MV ?_
     refine MW ?_ (v := .int .u32 (sr4 (Y3 (J4 F) (nb4 F.length) i) 8)) (hv := fun _ => J9d (n := 8) (by decide) rfl rfl rfl)
     refine MW ?_ (v := .int .u8 (w8 (sr4 (Y3 (J4 F) (nb4 F.length) i) 8))) (hv := by intro W; exact Q3f rfl rfl)
     refine MV ?_
     refine MW ?_ (v := .int .u8 (w8 (sr4 (Y3 (J4 F) (nb4 F.length) i) 0))) (hv := by intro W; rw [V3x]; exact Q3f rfl rfl)
     refine MW ?_ (v := .pointer (some ⟨Z0b, 0 + (4 * i), none⟩)) (hv := fun _ => J5 (m := 32) (by decide) (by omega) Tryz.underlying23 (by kernel_rfl) rfl rfl rfl)
     refine MP 0 (v := .int .u8 (w8 (sr4 (Y3 (J4 F) (nb4 F.length) i) 24))) (cs' := J0 .u8 32 (J8p (Y3 (J4 F) (nb4 F.length)) (4 * i + 1))) ?_ (hs := by rw [J2, Nat.zero_add]; omega) (hc := by rw [Nat.zero_add, K0]; exact congrArg (J0 .u8 32) (J8j (Y3 (J4 F) (nb4 F.length)) i 0 (by decide)))
     refine MW ?_ (v := .pointer (some ⟨Z0b, 0 + (4 * i + 1), none⟩)) (hv := fun _ => J5 (m := 32) (by decide) (by omega) Tryz.underlying23 (by kernel_rfl) rfl rfl rfl)
     refine MP 0 (v := .int .u8 (w8 (sr4 (Y3 (J4 F) (nb4 F.length) i) 16))) (cs' := J0 .u8 32 (J8p (Y3 (J4 F) (nb4 F.length)) (4 * i + 2))) ?_ (hs := by rw [J2, Nat.zero_add]; omega) (hc := by rw [Nat.zero_add, K0]; exact congrArg (J0 .u8 32) (J8j (Y3 (J4 F) (nb4 F.length)) i 1 (by decide)))
     refine MW ?_ (v := .pointer (some ⟨Z0b, 0 + (4 * i + 2), none⟩)) (hv := fun _ => J5 (m := 32) (by decide) (by omega) Tryz.underlying23 (by kernel_rfl) rfl rfl rfl)
     refine MP 0 (v := .int .u8 (w8 (sr4 (Y3 (J4 F) (nb4 F.length) i) 8))) (cs' := J0 .u8 32 (J8p (Y3 (J4 F) (nb4 F.length)) (4 * i + 3))) ?_ (hs := by rw [J2, Nat.zero_add]; omega) (hc := by rw [Nat.zero_add, K0]; exact congrArg (J0 .u8 32) (J8j (Y3 (J4 F) (nb4 F.length)) i 2 (by decide)))
     refine MW ?_ (v := .pointer (some ⟨Z0b, 0 + (4 * i + 3), none⟩)) (hv := fun _ => J5 (m := 32) (by decide) (by omega) Tryz.underlying23 (by kernel_rfl) rfl rfl rfl)
     refine MP 0 (v := .int .u8 (w8 (sr4 (Y3 (J4 F) (nb4 F.length) i) 0))) (cs' := J0 .u8 32 (J8p (Y3 (J4 F) (nb4 F.length)) (4 * i + 4))) ?_ (hs := by rw [J2, Nat.zero_add]; omega) (hc := by rw [Nat.zero_add, K0]; exact congrArg (J0 .u8 32) (J8j (Y3 (J4 F) (nb4 F.length)) i 3 (by decide)))
     refine MZ fun W hS => ?_
     go_wp2
     go_roundw
     case rel => exact ⟨i + 1, by omega, by go_num, (by rw [show 4 * (i + 1) = 4 * i + 4 by omega]; exact hS)⟩
     case measure => simp [intOf]; omega
    have _f := h8
    obtain rfl : i = 8 := by omega
    rw [show 4 * 8 = 32 by rfl, Z64] at hS
    go_upto_region 16 with fail
    refine RL hS ?_
    clear hS
    refine MW ?_ (v := .bool false)
    refine MZ fun W hS => ?_
    go_upto_region 20 with fail
    refine RL hS ?_
    clear hS
    refine ML 0 ?_
    refine MR 1 ?_ 
    refine MZ fun W hS => ?_
    go_wp2
    refine bodyPost_ret (Y0 rfl rfl (hS.blk (i := 1) rfl) (by kernel_rfl) (by rw [J2]; kernel_rfl)) rfl ⟨rfl, hS.ext⟩
theorem V06 (ps : List (List UInt8)) (A : Option Addr) (c : Nat) (F : List UInt8) (hF : ps.flatten = F) (hlen : F.length ≤ 70368744177664) (hpn : ps.length ≤ 9223372036854775000) (w : World) (hps : ∀ i l, ps[i]? = some l → ∃ ad u, A = some ad ∧ w.cell? (ad.add i) = some u ∧ Sl w u l) (hG : GS4 w) :
  Calls Tryz.prog 45 #[.slice A ps.length c] w fun e w' => Ret (.agg (J0 .u8 32 (sm4 F))) w w' e := by
 have HG := Lib.hid hG
 have HPS := Lib.hid hps
 clear hG hps
 have hS := SH.nil [] w
 go_enter Tryz.func45, Tryz.ntmps45
 go_upto_region 0 with fail
 refine RL hS ?_
 clear hS
 refine MN (z := J0 .u8 32 (fun _ => 0)) (t := 23) ?_
 intro J0a
 refine MZ fun W hS => ?_
 go_upto_region 1 with fail
 refine RL hS ?_
 clear hS
 refine ME (fun W hS => (Y9t W (J1a HG.out hS.ext)).mono fun e W' ⟨p, h1, h2, h3, h4⟩ => ⟨p, h1, (hS.new (x := .b p _ _) h3 h4.1 (fun k hk => by rw [List.mem_singleton.1 hk]; exact h2) rfl rfl).onil rfl⟩) ?_
 intro p6
 refine MV ?_
 refine MZ fun W hS => ?_
 go_upto_region 2 with fail
 refine RL hS ?_
 clear hS
 refine MV ?_
 refine MV ?_
 refine MW ?_ (v := .int .i64 0)
 refine MZ fun W hS => ?_
 go_wp2_with fail
 go_loopw [9] (fun ii wr => ∃ (i : Nat) (bv : Value), (i ≤ ps.length) ∧ (ii = .int .i64 (i : Int)) ∧ SH [] w wr [.b p6 (hcs bv (List.take i ps).flatten) 196, .o bv (hr4 (List.take i ps).flatten), .b J0a (J0 .u8 32 (fun _ => 0)) 23])
  (fun ii _ => ps.length - (intOf ii).toNat)
 case atStart => exact ⟨0, (.slice none 0 0), Nat.zero_le _, rfl, (by rw [List.take_zero, List.flatten_nil]; exact (hS.pick [1, 0, 2]))⟩
 clear hS
 case round =>
  obtain ⟨i, bv, hi, rfl, hS⟩ := hrel
  by_cases hlt : i < ps.length
  ·
   have _f := hlt
   obtain ⟨l_, hl_⟩ : ∃ l, ps[i]? = some l := ⟨_, List.getElem?_eq_getElem hlt⟩
   obtain ⟨ad_, u_, hA_, hc_, hu_⟩ := HPS.out i l_ hl_
   have hfl : (List.take i ps).flatten.length + l_.length ≤ F.length := by rw [← hF, ← List.length_append, ← J9y hl_]; exact Q9y _ _
   go_upto_region 3 with fail
   refine RL hS ?_
   clear hS
   refine MW ?_ (v := .bool true)
   refine MZ fun W hS => ?_
   go_upto_region 4 with fail
   refine RL hS ?_
   clear hS
   refine MW ?_ (v := .pointer (some (ad_.add i))) (hv := fun _ => Z3r (j := i) hlt rfl (by rw [← hA_]; rfl) rfl)
   refine MF (v := u_) (fun W hS => V2 rfl rfl (K5 hc_ hS.ext) (by kernel_rfl)) ?_
   refine MV ?_
   refine MZ fun W hS => ?_
   go_upto_region 5 with fail
   refine RL hS ?_
   clear hS
   refine MV ?_
   refine MV ?_
   refine ME (V := fun _ => .tuple #[]) (fun W hS => Q97 [2, 3, 1, 0] [4] ((hS.ent hu_).entp (Z61 HG.out)) (fun hS => Y0e p6 bv u_ (List.take i ps).flatten l_ (by omega) W hS) (fun _ => ⟨.inr ⟨rfl, rfl⟩, .inr ⟨rfl, rfl⟩, .inl (by simp), .inl (by simp), trivial⟩)) ?_
   intro v15
   refine MD 2 ?_
   refine MD 2 ?_
   refine MZ fun W hS => ?_
   go_wp2
   go_roundw
   case rel => exact ⟨i + 1, v15, by omega, by go_num, (by rw [J9y hl_]; exact hS)⟩
   case measure => simp [intOf]; omega
  have _f := hlt
  obtain rfl : i = ps.length := by omega
  rw [List.take_length, hF] at hS
  go_upto_region 3 with fail
  refine RL hS ?_
  clear hS
  refine MW ?_ (v := .bool false)
  refine MZ fun W hS => ?_
  go_upto_region 7 with fail
  refine RL hS ?_
  clear hS
  refine MV ?_
  refine MC (v := .agg (J0 .u8 32 (sm4 F))) (fun W hS => Y42 p6 bv F hlen W (hS.blk (i := 0) rfl) (hS.osl (i := 1) rfl) (J1a HG.out hS.ext)) ?_
  refine MR 2 ?_ 
  refine MZ fun W hS => ?_
  go_wp2
  refine bodyPost_ret (Y0 rfl rfl (hS.blk (i := 2) rfl) (by kernel_rfl) (by rw [J2]; kernel_rfl)) rfl ⟨rfl, hS.ext⟩
end

section
set_option maxRecDepth 100000
open Go.RowKit
attribute [local irreducible] wpList J0k wpX
def lf (k v : Nat) : Array Value := J0 .u8 32 (Q5 k) ++ J0 .u8 32 (Q5 v)
section
variable {k v : Nat}
theorem Q8 : (lf k v).size = 64 := by unfold lf; rw [Array.size_append, J2, J2]
theorem J34 : (lf k v).all (·.oneCell') = true := by unfold lf; rw [Array.all_append, K3, K3]; rfl
theorem J4i : ∀ i u, (J0 .u8 32 (Q5 k))[i]? = some u → (lf k v)[0 + i]? = some u := fun i u h => by rw [Nat.zero_add]; exact J5t h
theorem Z7q : ∀ i u, (J0 .u8 32 (Q5 v))[i]? = some u → (lf k v)[32 + i]? = some u := fun i u h => J8z (J2 _ _ _) h
end
def pfc (s : Value) (th : Bool) (a x : Nat) : Array Value := #[s, .bool th] ++ lf a x
section
variable {s : Value} {th : Bool} {a x : Nat}
theorem J01 : (pfc s th a x).size = 66 := by unfold pfc; rw [Array.size_append, Q8]; rfl
theorem Q48 (h : s.oneCell' = true) : (pfc s th a x).all (·.oneCell') = true := by unfold pfc; rw [Array.all_append, J34]; simp [h]; rfl
theorem J6p : (pfc s th a x)[0]? = some s := by unfold pfc; rw [Array.getElem?_append_left (by simp)]; rfl
theorem Q0l : (pfc s th a x)[1]? = some (.bool th) := by unfold pfc; rw [Array.getElem?_append_left (by simp)]; rfl
theorem Y2f : ∀ i v, (lf a x)[i]? = some v → (pfc s th a x)[2 + i]? = some v := fun i v h => by unfold pfc; exact J8z rfl h
theorem Z4z : ∀ i v, (J0 .u8 32 (Q5 a))[i]? = some v → (pfc s th a x)[2 + i]? = some v := fun i v h => Y2f i v (by have h_ := J4i (v := x) i v h; rwa [Nat.zero_add] at h_)
theorem Y7o : ∀ i v, (J0 .u8 32 (Q5 x))[i]? = some v → (pfc s th a x)[34 + i]? = some v := fun i v h => by
 have h_ := Y2f (s := s) (th := th) (32 + i) v (Z7q (k := a) i v h)
 rwa [show 2 + (32 + i) = 34 + i by omega] at h_
end
section
variable {s : Value} {th : Bool} {a x k y : Nat} {v : Value}
theorem pfl (s : Value) (th : Bool) (a x : Nat) : (pfc s th a x).toList = s :: .bool th :: (lf a x).toList := by unfold pfc; simp
theorem Y2g : (pfc s th a x).setIfInBounds 0 v = pfc v th a x := by
 apply Array.toList_inj.1; rw [Array.toList_setIfInBounds, pfl, pfl]; rfl
end
theorem Y7p {W : World} {g o s : Nat} (h : ∀ i v, (J1e s)[i]? = some v → W.cell? ⟨g, o + i, none⟩ = some v) : Sl W (.slice (some ⟨g, o, none⟩) 32 32) (lb 32 s) := by
 refine ⟨some ⟨g, o, none⟩, 32, by rw [Q2], by rw [Q2]; decide, by decide, fun h => (by cases h), fun j x hj => ⟨_, rfl, ?_⟩⟩
 have hj2 : j < 32 := by have := (List.getElem?_eq_some_iff.1 hj).1; rwa [Q2] at this
 rw [Z7i hj2] at hj
 have := Option.some.inj hj
 subst this
 rw [Z0x, Addr.add_mid]
 exact h j _ (by unfold J1e; rw [Array.getElem?_toList]; exact J6 _ _ _ _ hj2)
abbrev Lf := Nat × Nat
theorem Q9e {A B : Nat} (h : A = B) (w : World) : (Op.equalIn 10000 23 (.agg (J0 .u8 32 (Q5 A))) (.agg (J0 .u8 32 (Q5 B)))).run Tryz.prog w = .ok true w := by
 subst h
 rw [J2o (P := Tryz.prog) w 9998 23 5 32 .u8 (J0 .u8 32 (Q5 A)) (J0 .u8 32 (Q5 A)) (Q5 A) (Q5 A) Tryz.underlying23 Tryz.underlying5 (by kernel_rfl) (fun i hi => J6 _ _ _ _ hi) (fun i hi => J6 _ _ _ _ hi)]
 rw [(J66 _ _ _).2 fun _ _ => rfl]
theorem Q2k {P : Program} {d : Nat} {xs ys : Array Value} {w : World} {f : Field} {fs : List Field} {a b : Value} {r : Bool} (hn : f.name ≠ "_") (h1 : (part f.type xs f.offset).run P w = .ok a w) (h2 : (part f.type ys f.offset).run P w = .ok b w) (h3 : (Op.equalIn d f.type a b).run P w = .ok r w) :
  (Op.eqFields d xs ys (f :: fs)).run P w = if r = true then (Op.eqFields d xs ys fs).run P w else .ok false w := by
 rw [Op.eqFields, if_pos hn]
 cases r with
 | true => rw [if_pos rfl]; simp only [Sem.run_bind, h1, h2, h3, Result.andThen_ok, Bool.not_true, Bool.false_eq_true, if_false]
 | false => rw [if_neg (by decide)]; simp only [Sem.run_bind, h1, h2, h3, Result.andThen_ok, Bool.not_false, if_true, Sem.run_pure]
theorem Q9f {P : Program} (w : World) (t n e : Nat) (xs : Array Value) (off : Nat) (ht : P.underlying t = some (.array n e)) (hs : (P.info? t).map (·.size) = some n) (ho : off + n ≤ xs.size) : (part t xs off).run P w = .ok (.agg (xs.extract off (off + n))) w := by
 have h1 : (isAgg t).run P w = .ok true w := by
  unfold isAgg; rw [Sem.run_bind, run_underlying ht w]; rfl
 cases hq : P.info? t with
 | none => simp [hq] at hs
 | some i =>
  have hsz : i.size = n := by simpa [hq] using hs
  simp [part, Sem.run_bind, h1, sizeOf, typeInfo, hq, hsz, ho]
theorem eqB (d : Nat) (A B : Nat) (hA : A < 2 ^ 256) (hB : B < 2 ^ 256) (xs ys : Array Value) (hx : ∀ i, i < 32 → xs[i]? = some (.int .u8 (Q5 A i))) (hy : ∀ i, i < 32 → ys[i]? = some (.int .u8 (Q5 B i))) (w : World) : (Op.equalIn (d + 2) 23 (.agg xs) (.agg ys)).run Tryz.prog w = .ok (decide (A = B)) w := by
 rw [J2o (P := Tryz.prog) w d 23 5 32 .u8 xs ys (Q5 A) (Q5 B) Tryz.underlying23 Tryz.underlying5 (by kernel_rfl) hx hy]
 congr 1
 rw [Bool.eq_iff_iff, J66, decide_eq_true_iff]
 exact ⟨Q15 hA hB, fun h => by subst h; intro _ _; rfl⟩
theorem J94 (A B : Nat) (hA : A < 2 ^ 256) (hB : B < 2 ^ 256) (w : World) : (Op.equalIn 10000 23 (.agg (J0 .u8 32 (Q5 A))) (.agg (J0 .u8 32 (Q5 B)))).run Tryz.prog w = .ok (decide (A = B)) w :=
 eqB 9998 A B hA hB _ _ (fun i hi => J6 _ _ _ _ hi) (fun i hi => J6 _ _ _ _ hi) w
theorem Y55 {k v : Nat} : ∀ i, i < 32 → ((lf k v).extract 0 (0 + 32))[i]? = some (.int .u8 (Q5 k i)) := fun i hi => by
 rw [Array.getElem?_extract]; simp only [Q8]
 rw [if_pos (by omega)]; exact J4i i _ (J6 _ _ _ _ hi)
theorem Y56 {k v : Nat} : ∀ i, i < 32 → ((lf k v).extract 32 (32 + 32))[i]? = some (.int .u8 (Q5 v i)) := fun i hi => by
 rw [Array.getElem?_extract]; simp only [Q8]
 rw [if_pos (by omega)]; exact Z7q i _ (J6 _ _ _ _ hi)
theorem V5g (x y : Lf) (hx : x.1 < 2 ^ 256 ∧ x.2 < 2 ^ 256) (hy : y.1 < 2 ^ 256 ∧ y.2 < 2 ^ 256) (w : World) : (Op.equalIn 10000 60 (.agg (lf x.1 x.2)) (.agg (lf y.1 y.2))).run Tryz.prog w = .ok (decide (x = y)) w := by
 have hu := Tryz.underlying60
 have hf : Tryz.prog.fieldsOf 60 = (match Tryz.prog.underlying 60 with | some (.struct fs) => fs | _ => #[]) := rfl
 rw [hu] at hf
 rw [run_equalIn_struct w 9999 60 _ _ (by rw [hf]; exact hu) (by kernel_rfl), hf]
 have p1 := fun k v => Q9f (P := Tryz.prog) w 23 32 5 (lf k v) 0 Tryz.underlying23 (by kernel_rfl) (by rw [Q8]; decide)
 have p2 := fun k v => Q9f (P := Tryz.prog) w 23 32 5 (lf k v) 32 Tryz.underlying23 (by kernel_rfl) (by rw [Q8]; decide)
 refine (Q2k (by decide) (p1 _ _) (p1 _ _) (eqB 9997 x.1 y.1 hx.1 hy.1 _ _ Y55 Y55 w)).trans ?_
 by_cases h : x.1 = y.1
 ·
  rw [if_pos (decide_eq_true h)]
  refine (Q2k (by decide) (p2 _ _) (p2 _ _) (eqB 9997 x.2 y.2 hx.2 hy.2 _ _ Y56 Y56 w)).trans ?_
  by_cases h2 : x.2 = y.2
  ·
   rw [if_pos (decide_eq_true h2), decide_eq_true (Prod.ext h h2)]; simp [Op.eqFields]
  rw [if_neg (by simp [h2]), decide_eq_false fun e => h2 (by rw [e])]
 rw [if_neg (by simp [h]), decide_eq_false fun e => h (by rw [e])]
end

section
set_option maxHeartbeats 1500000
set_option maxRecDepth 100000
open Go.RowKit
attribute [local irreducible] wpList

theorem J3u (p : Int) (hp : W4 p) (n : Nat) (h1 : 1 ≤ n) (h2 : n ≤ 31) (w : World) :
  Calls Tryz.prog 49 #[.int .i64 p, .int .i64 (n : Int)] w fun e w' => Ret (.int .i64 (rt4 p n)) w w' e := by
 have n0 : (1 : Int) ≤ (n : Int) := by omega
 have n1 : (n : Int) ≤ 31 := by omega
 have hs := Y6w hp h1 h2
 have ht := Y1m hp h1 h2
 clear hp
 have off0 : Off [] w w := Off.refl _ _
 go_enter Tryz.func49, Tryz.ntmps49
 go_upto_region 1 with fail
 refine Rx 10 ?_
 refine Xv ?_
 refine Xv ?_
 refine Xw ?_ (v := .int .i64 (p / 2 ^ n)) (hv := fun _ _ => by exact J0j (n := n) (by omega) rfl rfl rfl)
 refine Xv ?_
 refine Xv ?_
 refine Xw ?_ (v := .int .i64 (((32 - n : Nat) : Int))) (hv := fun _ _ => by go_simp; (try simp only [IntKind.wrap_u64, IntKind.wrap_i64]); (try omega))
 refine Xw ?_ (v := .int .i64 (p * 2 ^ (32 - n))) (hv := fun _ _ => by rw [← hs]; exact Q00 (n := 32 - n) (by omega) rfl rfl rfl)
 refine Xw ?_ (v := .int .i64 (bits .or .i64 (p / 2 ^ n) (p * 2 ^ (32 - n)))) (hv := fun _ _ => by exact Q1i rfl rfl rfl)
 refine Xw ?_ (v := .int .i64 (rt4 p n)) (hv := fun _ _ => by rw [← ht]; exact J2h rfl rfl rfl)
 refine Xv ?_
 refine Z4 fun W1 hE => ?_
 have hO := Z7 hE
 replace off0 := off0.o hO
 clear hO hE
 refine LN ?_
 go_wp2
 exact bodyPost_ret (v := .int .i64 (rt4 p n)) (by simp only [results, Tryz.results49]; go_simp) rfl ⟨rfl, off0.ext⟩
end
end Go.Proofs.YtejkmhgkkibafaaGreatDoor
