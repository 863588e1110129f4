/- Contracts and plain laws that superChecks_holds rests on. Conditions: the variables' cells hold the numbers of the program's text. -/
import Derived.Test.YtejkmhgkkibafaaGreatDoorJ28
import Derived.Test.YtejkmhgkkibafaaGreatDoorJ6
import Derived.Test.YtejkmhgkkibafaaGreatDoorJ8
import Derived.Test.YtejkmhgkkibafaaGreatDoorJ5
open Go.RowKit
set_option maxRecDepth 100000
set_option linter.unusedSimpArgs false
set_option linter.unusedVariables false
namespace Go.Proofs.YtejkmhgkkibafaaGreatDoor
section
set_option maxHeartbeats 1500000
attribute [local irreducible] wpList J01 wpX
theorem Q1k {w : World} {o : Oper} {a : Act} {x : Operand} {p : Int} (ho : o.op = .convert 193 5 x) (hx : a.eval x = .int .u32 p) : (execOp a.eval o).run Tryz.prog w = .ok (.value (.int .u8 (w8 p))) w := by
 simp [execOp, ho, hx, convert, run_underlying Tryz.underlying5, run_underlying Tryz.underlying193, Sem.run_bind, Conv.intToInt, w8]
theorem Y2t {w : World} : (isAgg 193).run Tryz.prog w = .ok false w := by
 simp [isAgg, run_underlying Tryz.underlying193, Sem.run_bind]
theorem V27 (x : Int) : sr4 x 0 = x := by unfold sr4; simp

theorem Y2u (p : Nat) (v : Value) (F : List UInt8) (hlen : F.length ≤ 70368744177664) (w : World) (hkB : Blk w p (hcs v F) 196) (hrS : Sl w v (hr4 F)) (hG : GS4 w) :
  Calls Tryz.prog 86 #[.pointer (some ⟨p, 0, none⟩)] w fun e w' => K6 (.agg (J0 .u8 32 (sm4 F))) w w' e := by
 have HG := Lib.hid hG
 clear hG
 have hS := SH.nil [] w
 have ρ := Q9x F
 have hN : zc4 (hr4 F).length = zc4 F.length := by rw [J6q, Z8z]
 have θ := (Q36 (hr4 F).length).2
 obtain ⟨PD, N⟩ : ∃ PD, PD = (J2k F).drop (64 * (F.length / 64)) := ⟨_, rfl⟩
 have J : PD.length = 64 * nb4 (hr4 F).length := by have h1 := Q8b F; have h2 := Q8c F; rw [N, List.length_drop, h1]; omega
 have M := Lib.hid N
 clear N
 go_enter Tryz.func86, Tryz.ntmps86
 go_upto_region 0 with fail
 refine RL hS ?_
 clear hS
 refine MN (z := J0 .u8 32 (fun _ => 0)) (t := 23) ?_
 intro R
 refine MZ fun W hS => ?_
 go_upto_region 3 with fail
 refine RL hS ?_
 clear hS
 refine MO (m := []) (n := 0) (z := #[]) ?_
 intro κ
 refine MV ?_
 refine MV ?_
 refine MV ?_
 refine MF (v := v) (fun W hS => J04 rfl rfl (by rw [Q0 (J1 hkB hS.ext)]; exact Q1j) (by kernel_rfl)) ?_
 refine MA 0 (xs := []) (ys := (hr4 F)) (fun W hS => (J5t hrS hS.ext)) (by first | omega | (simp only [List.length_append, List.length_cons, List.length_nil, List.length_replicate, List.length_drop]; omega)) ?_
 intro X
 refine MT (fun W hS => by rw [List.nil_append] at hS; exact hS) ?_
 refine MO (m := [128]) (n := 1) (z := #[.int .u8 128]) ?_
 intro σ
 refine MA 1 (xs := (hr4 F)) (ys := [128]) (fun W hS => (hS.osl (i := 0) rfl)) (by first | omega | (simp only [List.length_append, List.length_cons, List.length_nil, List.length_replicate, List.length_drop]; omega)) ?_
 intro Y
 refine MV ?_
 refine MZ fun W hS => ?_
 go_wp2_with fail
 go_loopw [3] (fun sv wr => ∃ (k : Nat) (bv : Value), (k ≤ zc4 (hr4 F).length) ∧ (bv = sv) ∧ SH [] w wr [.o bv (hr4 F ++ [128] ++ List.replicate k 0), .b R (J0 .u8 32 (fun _ => 0)) 23])
  (fun sv _ => F.length + 300 - J8k sv)
 case atStart => exact ⟨0, _, Nat.zero_le _, rfl, (by have h_ := (hS.pick [1, 2]); rw [List.replicate_zero, List.append_nil]; exact h_)⟩
 clear hS
 case round =>
  obtain ⟨k, bv, hk, rfl, hS⟩ := hrel
  have lb := J5u (hS.osl (i := 0) rfl)
  by_cases hz : k < zc4 (hr4 F).length
  ·
   have V := Y8w hz
   go_upto_region 4 with fail
   refine RL hS ?_
   clear hS
   refine MV ?_
   refine MF (v := .int .i64 ((hr4 F ++ [128] ++ List.replicate k 0).length : Int)) (fun W hS => J21 (hS.osl (i := 0) rfl) rfl rfl) ?_
   refine MW ?_ (v := .int .i64 ((((hr4 F).length + 1 + k) % 64 : Nat) : Int)) (hv := by intro W; go_simp; (try simp only [List.length_append, List.length_cons, List.length_nil, List.length_replicate]); rw [Int.tmod_eq_emod_of_nonneg (by omega)]; omega)
   refine MW ?_ (v := .bool true) (hv := by intro W; go_simp; omega)
   refine MZ fun W hS => ?_
   go_upto_region 5 with fail
   refine RL hS ?_
   clear hS
   refine MV ?_
   refine MO (m := [0]) (n := 1) (z := #[.int .u8 0]) ?_
   intro β
   refine MA 1 (xs := (hr4 F ++ [128] ++ List.replicate k 0)) (ys := [0]) (fun W hS => (hS.osl (i := 0) rfl)) (by first | omega | (simp only [List.length_append, List.length_cons, List.length_nil, List.length_replicate, List.length_drop]; omega)) ?_
   intro ψ
   refine MV ?_
   refine MZ fun W hS => ?_
   have la := J5u (hS.osl (i := 1) rfl)
   simp only [List.length_append, List.length_cons, List.length_nil, List.length_replicate] at la lb
   go_wp2
   go_roundw
   case rel => exact ⟨k + 1, _, by omega, rfl, (by have h_ := (hS.pick [1, 2]); rw [List.append_assoc _ (List.replicate k 0), ← List.replicate_succ'] at h_; exact h_)⟩
   case measure => simp only [la, lb]; omega
  obtain rfl : k = zc4 (hr4 F).length := by omega
  have V := (Q36 (hr4 F).length).1
  go_upto_region 4 with fail
  refine RL hS ?_
  clear hS
  refine MV ?_
  refine MF (v := .int .i64 ((hr4 F ++ [128] ++ List.replicate (zc4 (hr4 F).length) 0).length : Int)) (fun W hS => J21 (hS.osl (i := 0) rfl) rfl rfl) ?_
  refine MW ?_ (v := .int .i64 ((((hr4 F).length + 1 + zc4 (hr4 F).length) % 64 : Nat) : Int)) (hv := by intro W; go_simp; (try simp only [List.length_append, List.length_cons, List.length_nil, List.length_replicate]); rw [Int.tmod_eq_emod_of_nonneg (by omega)]; omega)
  refine MW ?_ (v := .bool false) (hv := by intro W; first | (go_simp; done) | (go_simp; omega))
  refine MZ fun W hS => ?_
  go_wp2_with fail
  refine wp_loop_rounds 9 ?_
  rw [rounds_succ]
  go_upto_region 9 with fail
  refine RL hS ?_
  clear hS
  refine MV ?_
  refine MV ?_
  refine MV ?_
  refine MV ?_
  refine MF (v := .int .i64 (F.length : Int)) (fun W hS => J04 rfl rfl (by rw [Q0 (J1 hkB hS.ext)]; exact J3v) (by kernel_rfl)) ?_
  refine MW ?_ (v := .int .u64 ((F.length : Nat) : Int)) (hv := by intro W; go_simp; (try simp only [IntKind.wrap_u64]); omega)
  refine MW ?_ (v := .int .u64 ((8 * F.length : Nat) : Int)) (hv := by intro W; rw [show ((8 * F.length : Nat) : Int) = sl ((F.length : Nat) : Int) 3 from (by unfold sl; rw [IntKind.wrap_u64]; omega)]; exact J2t (n := 3) (by decide) rfl rfl rfl)
  refine MW ?_ (v := .int .i64 7)
  refine MW ?_ (v := .int .i64 56)
  refine MW ?_ (v := .int .u64 (sr ((8 * F.length : Nat) : Int) 56)) (hv := fun _ => J0o (n := 56) (by decide) rfl rfl rfl)
  refine MW ?_ (v := .int .u8 ((u8 ((8 * F.length) / 72057594037927936)).toNat : Int)) (hv := by intro W; rw [← J3d (8 * F.length) 56 72057594037927936 (by decide)]; exact J2f rfl rfl)
  refine MO (m := [u8 ((8 * F.length) / 72057594037927936)]) (n := 1) (z := #[.int .u8 ((u8 ((8 * F.length) / 72057594037927936)).toNat : Int)]) ?_
  intro ω
  refine MA 1 (xs := (hr4 F ++ [128] ++ List.replicate (zc4 (hr4 F).length) 0)) (ys := [u8 ((8 * F.length) / 72057594037927936)]) (fun W hS => (hS.osl (i := 0) rfl)) (by first | omega | (simp only [List.length_append, List.length_cons, List.length_nil, List.length_replicate, List.length_drop]; omega)) ?_
  intro ε
  refine MV ?_
  refine MZ fun W hS => ?_
  go_wp2_with fail
  rw [rounds_succ]
  go_upto_region 9 with fail
  refine RL hS ?_
  clear hS
  refine MV ?_
  refine MV ?_
  refine MV ?_
  refine MV ?_
  refine MF (v := .int .i64 (F.length : Int)) (fun W hS => J04 rfl rfl (by rw [Q0 (J1 hkB hS.ext)]; exact J3v) (by kernel_rfl)) ?_
  refine MW ?_ (v := .int .u64 ((F.length : Nat) : Int)) (hv := by intro W; go_simp; (try simp only [IntKind.wrap_u64]); omega)
  refine MW ?_ (v := .int .u64 ((8 * F.length : Nat) : Int)) (hv := by intro W; rw [show ((8 * F.length : Nat) : Int) = sl ((F.length : Nat) : Int) 3 from (by unfold sl; rw [IntKind.wrap_u64]; omega)]; exact J2t (n := 3) (by decide) rfl rfl rfl)
  refine MW ?_ (v := .int .i64 6)
  refine MW ?_ (v := .int .i64 48)
  refine MW ?_ (v := .int .u64 (sr ((8 * F.length : Nat) : Int) 48)) (hv := fun _ => J0o (n := 48) (by decide) rfl rfl rfl)
  refine MW ?_ (v := .int .u8 ((u8 ((8 * F.length) / 281474976710656)).toNat : Int)) (hv := by intro W; rw [← J3d (8 * F.length) 48 281474976710656 (by decide)]; exact J2f rfl rfl)
  refine MD 0 ?_
  refine MO (m := [u8 ((8 * F.length) / 281474976710656)]) (n := 1) (z := #[.int .u8 ((u8 ((8 * F.length) / 281474976710656)).toNat : Int)]) ?_
  intro τ
  refine MA 1 (xs := ((hr4 F ++ [128] ++ List.replicate (zc4 (hr4 F).length) 0) ++ [u8 ((8 * F.length) / 72057594037927936)])) (ys := [u8 ((8 * F.length) / 281474976710656)]) (fun W hS => (hS.osl (i := 0) rfl)) (by first | omega | (simp only [List.length_append, List.length_cons, List.length_nil, List.length_replicate, List.length_drop]; omega)) ?_
  intro η
  refine MV ?_
  refine MZ fun W hS => ?_
  go_wp2_with fail
  rw [rounds_succ]
  go_upto_region 9 with fail
  refine RL hS ?_
  clear hS
  refine MV ?_
  refine MV ?_
  refine MV ?_
  refine MV ?_
  refine MF (v := .int .i64 (F.length : Int)) (fun W hS => J04 rfl rfl (by rw [Q0 (J1 hkB hS.ext)]; exact J3v) (by kernel_rfl)) ?_
  refine MW ?_ (v := .int .u64 ((F.length : Nat) : Int)) (hv := by intro W; go_simp; (try simp only [IntKind.wrap_u64]); omega)
  refine MW ?_ (v := .int .u64 ((8 * F.length : Nat) : Int)) (hv := by intro W; rw [show ((8 * F.length : Nat) : Int) = sl ((F.length : Nat) : Int) 3 from (by unfold sl; rw [IntKind.wrap_u64]; omega)]; exact J2t (n := 3) (by decide) rfl rfl rfl)
  refine MW ?_ (v := .int .i64 5)
  refine MW ?_ (v := .int .i64 40)
  refine MW ?_ (v := .int .u64 (sr ((8 * F.length : Nat) : Int) 40)) (hv := fun _ => J0o (n := 40) (by decide) rfl rfl rfl)
  refine MW ?_ (v := .int .u8 ((u8 ((8 * F.length) / 1099511627776)).toNat : Int)) (hv := by intro W; rw [← J3d (8 * F.length) 40 1099511627776 (by decide)]; exact J2f rfl rfl)
  refine MD 0 ?_
  refine MO (m := [u8 ((8 * F.length) / 1099511627776)]) (n := 1) (z := #[.int .u8 ((u8 ((8 * F.length) / 1099511627776)).toNat : Int)]) ?_
  intro Δ
  refine MA 1 (xs := (((hr4 F ++ [128] ++ List.replicate (zc4 (hr4 F).length) 0) ++ [u8 ((8 * F.length) / 72057594037927936)]) ++ [u8 ((8 * F.length) / 281474976710656)])) (ys := [u8 ((8 * F.length) / 1099511627776)]) (fun W hS => (hS.osl (i := 0) rfl)) (by first | omega | (simp only [List.length_append, List.length_cons, List.length_nil, List.length_replicate, List.length_drop]; omega)) ?_
  intro Γ
  refine MV ?_
  refine MZ fun W hS => ?_
  go_wp2_with fail
  rw [rounds_succ]
  go_upto_region 9 with fail
  refine RL hS ?_
  clear hS
  refine MV ?_
  refine MV ?_
  refine MV ?_
  refine MV ?_
  refine MF (v := .int .i64 (F.length : Int)) (fun W hS => J04 rfl rfl (by rw [Q0 (J1 hkB hS.ext)]; exact J3v) (by kernel_rfl)) ?_
  refine MW ?_ (v := .int .u64 ((F.length : Nat) : Int)) (hv := by intro W; go_simp; (try simp only [IntKind.wrap_u64]); omega)
  refine MW ?_ (v := .int .u64 ((8 * F.length : Nat) : Int)) (hv := by intro W; rw [show ((8 * F.length : Nat) : Int) = sl ((F.length : Nat) : Int) 3 from (by unfold sl; rw [IntKind.wrap_u64]; omega)]; exact J2t (n := 3) (by decide) rfl rfl rfl)
  refine MW ?_ (v := .int .i64 4)
  refine MW ?_ (v := .int .i64 32)
  refine MW ?_ (v := .int .u64 (sr ((8 * F.length : Nat) : Int) 32)) (hv := fun _ => J0o (n := 32) (by decide) rfl rfl rfl)
  refine MW ?_ (v := .int .u8 ((u8 ((8 * F.length) / 4294967296)).toNat : Int)) (hv := by intro W; rw [← J3d (8 * F.length) 32 4294967296 (by decide)]; exact J2f rfl rfl)
  refine MD 0 ?_
  refine MO (m := [u8 ((8 * F.length) / 4294967296)]) (n := 1) (z := #[.int .u8 ((u8 ((8 * F.length) / 4294967296)).toNat : Int)]) ?_
  intro Z
  refine MA 1 (xs := ((((hr4 F ++ [128] ++ List.replicate (zc4 (hr4 F).length) 0) ++ [u8 ((8 * F.length) / 72057594037927936)]) ++ [u8 ((8 * F.length) / 281474976710656)]) ++ [u8 ((8 * F.length) / 1099511627776)])) (ys := [u8 ((8 * F.length) / 4294967296)]) (fun W hS => (hS.osl (i := 0) rfl)) (by first | omega | (simp only [List.length_append, List.length_cons, List.length_nil, List.length_replicate, List.length_drop]; omega)) ?_
  intro α
  refine MV ?_
  refine MZ fun W hS => ?_
  go_wp2_with fail
  rw [rounds_succ]
  go_upto_region 9 with fail
  refine RL hS ?_
  clear hS
  refine MV ?_
  refine MV ?_
  refine MV ?_
  refine MV ?_
  refine MF (v := .int .i64 (F.length : Int)) (fun W hS => J04 rfl rfl (by rw [Q0 (J1 hkB hS.ext)]; exact J3v) (by kernel_rfl)) ?_
  refine MW ?_ (v := .int .u64 ((F.length : Nat) : Int)) (hv := by intro W; go_simp; (try simp only [IntKind.wrap_u64]); omega)
  refine MW ?_ (v := .int .u64 ((8 * F.length : Nat) : Int)) (hv := by intro W; rw [show ((8 * F.length : Nat) : Int) = sl ((F.length : Nat) : Int) 3 from (by unfold sl; rw [IntKind.wrap_u64]; omega)]; exact J2t (n := 3) (by decide) rfl rfl rfl)
  refine MW ?_ (v := .int .i64 3)
  refine MW ?_ (v := .int .i64 24)
  refine MW ?_ (v := .int .u64 (sr ((8 * F.length : Nat) : Int) 24)) (hv := fun _ => J0o (n := 24) (by decide) rfl rfl rfl)
  refine MW ?_ (v := .int .u8 ((u8 ((8 * F.length) / 16777216)).toNat : Int)) (hv := by intro W; rw [← J3d (8 * F.length) 24 16777216 (by decide)]; exact J2f rfl rfl)
  refine MD 0 ?_
  refine MO (m := [u8 ((8 * F.length) / 16777216)]) (n := 1) (z := #[.int .u8 ((u8 ((8 * F.length) / 16777216)).toNat : Int)]) ?_
  intro μ
  refine MA 1 (xs := (((((hr4 F ++ [128] ++ List.replicate (zc4 (hr4 F).length) 0) ++ [u8 ((8 * F.length) / 72057594037927936)]) ++ [u8 ((8 * F.length) / 281474976710656)]) ++ [u8 ((8 * F.length) / 1099511627776)]) ++ [u8 ((8 * F.length) / 4294967296)])) (ys := [u8 ((8 * F.length) / 16777216)]) (fun W hS => (hS.osl (i := 0) rfl)) (by first | omega | (simp only [List.length_append, List.length_cons, List.length_nil, List.length_replicate, List.length_drop]; omega)) ?_
  intro δ
  refine MV ?_
  refine MZ fun W hS => ?_
  go_wp2_with fail
  rw [rounds_succ]
  go_upto_region 9 with fail
  refine RL hS ?_
  clear hS
  refine MV ?_
  refine MV ?_
  refine MV ?_
  refine MV ?_
  refine MF (v := .int .i64 (F.length : Int)) (fun W hS => J04 rfl rfl (by rw [Q0 (J1 hkB hS.ext)]; exact J3v) (by kernel_rfl)) ?_
  refine MW ?_ (v := .int .u64 ((F.length : Nat) : Int)) (hv := by intro W; go_simp; (try simp only [IntKind.wrap_u64]); omega)
  refine MW ?_ (v := .int .u64 ((8 * F.length : Nat) : Int)) (hv := by intro W; rw [show ((8 * F.length : Nat) : Int) = sl ((F.length : Nat) : Int) 3 from (by unfold sl; rw [IntKind.wrap_u64]; omega)]; exact J2t (n := 3) (by decide) rfl rfl rfl)
  refine MW ?_ (v := .int .i64 2)
  refine MW ?_ (v := .int .i64 16)
  refine MW ?_ (v := .int .u64 (sr ((8 * F.length : Nat) : Int) 16)) (hv := fun _ => J0o (n := 16) (by decide) rfl rfl rfl)
  refine MW ?_ (v := .int .u8 ((u8 ((8 * F.length) / 65536)).toNat : Int)) (hv := by intro W; rw [← J3d (8 * F.length) 16 65536 (by decide)]; exact J2f rfl rfl)
  refine MD 0 ?_
  refine MO (m := [u8 ((8 * F.length) / 65536)]) (n := 1) (z := #[.int .u8 ((u8 ((8 * F.length) / 65536)).toNat : Int)]) ?_
  intro φ
  refine MA 1 (xs := ((((((hr4 F ++ [128] ++ List.replicate (zc4 (hr4 F).length) 0) ++ [u8 ((8 * F.length) / 72057594037927936)]) ++ [u8 ((8 * F.length) / 281474976710656)]) ++ [u8 ((8 * F.length) / 1099511627776)]) ++ [u8 ((8 * F.length) / 4294967296)]) ++ [u8 ((8 * F.length) / 16777216)])) (ys := [u8 ((8 * F.length) / 65536)]) (fun W hS => (hS.osl (i := 0) rfl)) (by first | omega | (simp only [List.length_append, List.length_cons, List.length_nil, List.length_replicate, List.length_drop]; omega)) ?_
  intro χ
  refine MV ?_
  refine MZ fun W hS => ?_
  go_wp2_with fail
  rw [rounds_succ]
  go_upto_region 9 with fail
  refine RL hS ?_
  clear hS
  refine MV ?_
  refine MV ?_
  refine MV ?_
  refine MV ?_
  refine MF (v := .int .i64 (F.length : Int)) (fun W hS => J04 rfl rfl (by rw [Q0 (J1 hkB hS.ext)]; exact J3v) (by kernel_rfl)) ?_
  refine MW ?_ (v := .int .u64 ((F.length : Nat) : Int)) (hv := by intro W; go_simp; (try simp only [IntKind.wrap_u64]); omega)
  refine MW ?_ (v := .int .u64 ((8 * F.length : Nat) : Int)) (hv := by intro W; rw [show ((8 * F.length : Nat) : Int) = sl ((F.length : Nat) : Int) 3 from (by unfold sl; rw [IntKind.wrap_u64]; omega)]; exact J2t (n := 3) (by decide) rfl rfl rfl)
  refine MW ?_ (v := .int .i64 1)
  refine MW ?_ (v := .int .i64 8)
  refine MW ?_ (v := .int .u64 (sr ((8 * F.length : Nat) : Int) 8)) (hv := fun _ => J0o (n := 8) (by decide) rfl rfl rfl)
  refine MW ?_ (v := .int .u8 ((u8 ((8 * F.length) / 256)).toNat : Int)) (hv := by intro W; rw [← J3d (8 * F.length) 8 256 (by decide)]; exact J2f rfl rfl)
  refine MD 0 ?_
  refine MO (m := [u8 ((8 * F.length) / 256)]) (n := 1) (z := #[.int .u8 ((u8 ((8 * F.length) / 256)).toNat : Int)]) ?_
  intro γ
  refine MA 1 (xs := (((((((hr4 F ++ [128] ++ List.replicate (zc4 (hr4 F).length) 0) ++ [u8 ((8 * F.length) / 72057594037927936)]) ++ [u8 ((8 * F.length) / 281474976710656)]) ++ [u8 ((8 * F.length) / 1099511627776)]) ++ [u8 ((8 * F.length) / 4294967296)]) ++ [u8 ((8 * F.length) / 16777216)]) ++ [u8 ((8 * F.length) / 65536)])) (ys := [u8 ((8 * F.length) / 256)]) (fun W hS => (hS.osl (i := 0) rfl)) (by first | omega | (simp only [List.length_append, List.length_cons, List.length_nil, List.length_replicate, List.length_drop]; omega)) ?_
  intro Θ
  refine MV ?_
  refine MZ fun W hS => ?_
  go_wp2_with fail
  rw [rounds_succ]
  go_upto_region 9 with fail
  refine RL hS ?_
  clear hS
  refine MV ?_
  refine MV ?_
  refine MV ?_
  refine MV ?_
  refine MF (v := .int .i64 (F.length : Int)) (fun W hS => J04 rfl rfl (by rw [Q0 (J1 hkB hS.ext)]; exact J3v) (by kernel_rfl)) ?_
  refine MW ?_ (v := .int .u64 ((F.length : Nat) : Int)) (hv := by intro W; go_simp; (try simp only [IntKind.wrap_u64]); omega)
  refine MW ?_ (v := .int .u64 ((8 * F.length : Nat) : Int)) (hv := by intro W; rw [show ((8 * F.length : Nat) : Int) = sl ((F.length : Nat) : Int) 3 from (by unfold sl; rw [IntKind.wrap_u64]; omega)]; exact J2t (n := 3) (by decide) rfl rfl rfl)
  refine MW ?_ (v := .int .i64 0)
  refine MW ?_ (v := .int .i64 0)
  refine MW ?_ (v := .int .u64 (sr ((8 * F.length : Nat) : Int) 0)) (hv := fun _ => J0o (n := 0) (by decide) rfl rfl rfl)
  refine MW ?_ (v := .int .u8 ((u8 (8 * F.length)).toNat : Int)) (hv := by intro W; rw [← Z1y (8 * F.length)]; exact J2f rfl rfl)
  refine MD 0 ?_
  refine MO (m := [u8 (8 * F.length)]) (n := 1) (z := #[.int .u8 ((u8 (8 * F.length)).toNat : Int)]) ?_
  intro ν
  refine MA 1 (xs := ((((((((hr4 F ++ [128] ++ List.replicate (zc4 (hr4 F).length) 0) ++ [u8 ((8 * F.length) / 72057594037927936)]) ++ [u8 ((8 * F.length) / 281474976710656)]) ++ [u8 ((8 * F.length) / 1099511627776)]) ++ [u8 ((8 * F.length) / 4294967296)]) ++ [u8 ((8 * F.length) / 16777216)]) ++ [u8 ((8 * F.length) / 65536)]) ++ [u8 ((8 * F.length) / 256)])) (ys := [u8 (8 * F.length)]) (fun W hS => (hS.osl (i := 0) rfl)) (by first | omega | (simp only [List.length_append, List.length_cons, List.length_nil, List.length_replicate, List.length_drop]; omega)) ?_
  intro ξ
  refine MV ?_
  refine MZ fun W hS => ?_
  go_wp2_with fail
  rw [rounds_succ]
  go_upto_region 10 with fail
  refine RL hS ?_
  clear hS
  refine MV ?_
  refine MV ?_
  refine MV ?_
  refine MF (v := .agg (J0 .u32 8 (hw4 F))) (fun W hS => J0n (vs := (J0 .u32 8 (hw4 F)).toList) rfl rfl (fun i v hv => by rw [Q0 (J1 hkB hS.ext)]; exact Q86 i v (by simpa using hv)) (by kernel_rfl) (by first | kernel_rfl | (simp only [Array.length_toList]; rw [J2]; kernel_rfl))) ?_
  refine MN (z := J0 .u32 8 (fun _ => 0)) (t := 194) ?_
  intro T
  refine MR 0 ?_ 
  refine MZ fun W hS => ?_
  rw [Z20, hN, ← Z4g, ← M.out] at hS
  rw [Y2v F] at hS
  have hS := hS.read (i := 2) rfl (hS.osl (i := 2) rfl) J4d
  go_wp2_with fail
  go_loopw [3] (fun sv wr => ∃ (j : Nat) (u : Value), (j ≤ nb4 (hr4 F).length) ∧ (u = sv) ∧ SH [] w wr [.b T (J0 .u32 8 (Hs4 (J2k F) (F.length / 64 + j))) 194, .s u (List.drop (64 * j) PD), .b R (J0 .u8 32 (fun _ => 0)) 23])
   (fun sv _ => J8k sv)
  case atStart => exact ⟨0, _, Nat.zero_le _, rfl, (hS.pick [0, 2, 3])⟩
  clear hS
  case round =>
   obtain ⟨j, u, hj, rfl, hS⟩ := hrel
   have lb := J5u (hS.sl (i := 1) rfl)
   by_cases S : j < nb4 (hr4 F).length
   ·
    have G : 64 ≤ (List.drop (64 * j) PD).length := by rw [List.length_drop, J]; omega
    go_upto_region 11 with fail
    refine RL hS ?_
    clear hS
    refine MV ?_
    refine MF (v := .int .i64 ((List.drop (64 * j) PD).length : Int)) (fun W hS => J21 (hS.sl (i := 1) rfl) rfl rfl) ?_
    refine MW ?_ (v := .bool true) (hv := by intro W; go_simp; (try simp only [List.length_drop, J]); omega)
    refine MZ fun W hS => ?_
    go_upto_region 13 with fail
    refine RX 4 hS ?_
    clear hS
    refine ML 0 ?_
    refine MV ?_
    refine MH 1 64 (m' := (List.take 64 (List.drop (64 * j) PD))) (by exact G) ?_
    intro U
    refine MC (v := .agg (J0 .u32 8 (J6p (Hs4 (J2k F) (F.length / 64 + j)) (bt (List.drop (64 * j) PD))))) (fun W hS => Q8a (Hs4 (J2k F) (F.length / 64 + j)) (List.drop (64 * j) PD) (List.take 64 (List.drop (64 * j) PD)) U G rfl W (hS.sl (i := 0) rfl) (J2j HG.out hS.ext)) ?_
    refine MZt ?_
    refine MR 1 ?_ 
    refine MZn fun W hS => ?_
    go_upto_region 12 with fail
    refine RL hS ?_
    clear hS
    refine MV ?_
    refine Mt 2 64 (m' := (List.drop (64 * (j + 1)) PD)) (by exact G) ?_ (hm := Q35 _ _)
    intro ζ
    refine MV ?_
    refine MZ fun W hS => ?_
    have la := J5u (hS.sl (i := 0) rfl)
    simp only [List.length_drop, J] at la lb
    rw [M.out, Z4h, ← M.out] at hS
    go_wp2
    go_roundw
    case rel => exact ⟨j + 1, _, by omega, rfl, (hS.pick [2, 0, 4])⟩
    case measure => simp only [la, lb]; omega
   obtain rfl : j = nb4 (hr4 F).length := by omega
   rw [Q8c] at hS
   go_upto_region 11 with fail
   refine RL hS ?_
   clear hS
   refine MV ?_
   refine MF (v := .int .i64 ((List.drop (64 * nb4 (hr4 F).length) PD).length : Int)) (fun W hS => J21 (hS.sl (i := 1) rfl) rfl rfl) ?_
   refine MW ?_ (v := .bool false) (hv := by intro W; first | (go_simp; done) | (go_simp; (try simp only [List.length_drop, J]); omega))
   refine MZ fun W hS => ?_
   go_upto_region 14 with fail
   refine RL hS ?_
   clear hS
   refine MN (z := J0 .u8 32 (fun _ => 0)) (t := 23) ?_
   intro D
   refine MZ fun W hS => ?_
   go_upto_region 15 with fail
   refine RL hS ?_
   clear hS
   refine ML 1 ?_
   refine MW ?_ (v := .int .i64 0)
   refine MZ fun W hS => ?_
   go_wp2_with fail
   go_loopw [59] (fun ii wr => ∃ (i : Nat), (i ≤ 8) ∧ (ii = .int .i64 (i : Int)) ∧ SH [] w wr [.b D (J0 .u8 32 (J6v (Hs4 (J2k F) (nb4 F.length)) (4 * i))) 23, .b R (J0 .u8 32 (fun _ => 0)) 23])
    (fun ii _ => 8 - (intOf ii).toNat)
   case atStart => exact ⟨0, Nat.zero_le _, rfl, (by rw [Nat.mul_zero, Q9y]; exact (hS.pick [0, 3]))⟩
   clear hS
   case round =>
    obtain ⟨i, hi, rfl, hS⟩ := hrel
    by_cases h8 : i < 8
    ·
     go_upto_region 16 with fail
     refine RL hS ?_
     clear hS
     refine MW ?_ (v := .bool true)
     refine MZ fun W hS => ?_
     go_upto_region 17 with fail
     refine RL hS ?_
     clear hS
     refine MV ?_
     refine MW ?_ (v := .int .u32 (Hs4 (J2k F) (nb4 F.length) i)) (hv := fun _ => Q6b (m := 8) h8 Tryz.underlying194 (by kernel_rfl) Y2t rfl rfl rfl)
     refine MV ?_
     refine MV ?_
     refine MZ fun W hS => ?_
     go_upto_region 18 with fail
     refine RL hS ?_
     clear hS
     refine MV ?_
     refine MW ?_ (v := .int .i64 (((4 * i : Nat) : Int))) (hv := by intro W; go_simp; (try simp only [IntKind.wrap_u64, IntKind.wrap_i64]); (try omega))
     refine MV ?_
     refine MW ?_ (v := .int .i64 (((4 * i : Nat) : Int))) (hv := by intro W; go_simp; (try simp only [IntKind.wrap_u64, IntKind.wrap_i64]); (try omega))
     refine MW ?_ (v := .int .i64 (((4 * i + 1 : Nat) : Int))) (hv := by intro W; go_simp; (try simp only [IntKind.wrap_u64, IntKind.wrap_i64]); (try omega))
     refine MV ?_
     refine MW ?_ (v := .int .i64 (((4 * i : Nat) : Int))) (hv := by intro W; go_simp; (try simp only [IntKind.wrap_u64, IntKind.wrap_i64]); (try omega))
     refine MW ?_ (v := .int .i64 (((4 * i + 2 : Nat) : Int))) (hv := by intro W; go_simp; (try simp only [IntKind.wrap_u64, IntKind.wrap_i64]); (try omega))
     refine MV ?_
     refine MW ?_ (v := .int .i64 (((4 * i : Nat) : Int))) (hv := by intro W; go_simp; (try simp only [IntKind.wrap_u64, IntKind.wrap_i64]); (try omega))
     refine MW ?_ (v := .int .i64 (((4 * i + 3 : Nat) : Int))) (hv := by intro W; go_simp; (try simp only [IntKind.wrap_u64, IntKind.wrap_i64]); (try omega))
     refine MV ?_
     refine MW ?_ (v := .int .u32 (sr4 (Hs4 (J2k F) (nb4 F.length) i) 24)) (hv := fun _ => J7q (n := 24) (by decide) rfl rfl rfl)
     refine MW ?_ (v := .int .u8 (w8 (sr4 (Hs4 (J2k F) (nb4 F.length) i) 24))) (hv := by intro W; exact Q1k rfl rfl)
     refine MV ?_
     refine MW ?_ (v := .int .u32 (sr4 (Hs4 (J2k F) (nb4 F.length) i) 16)) (hv := fun _ => J7q (n := 16) (by decide) rfl rfl rfl)
     refine MW ?_ (v := .int .u8 (w8 (sr4 (Hs4 (J2k F) (nb4 F.length) i) 16))) (hv := by intro W; exact Q1k rfl rfl)
     refine MV ?_
     refine MW ?_ (v := .int .u32 (sr4 (Hs4 (J2k F) (nb4 F.length) i) 8)) (hv := fun _ => J7q (n := 8) (by decide) rfl rfl rfl)
     refine MW ?_ (v := .int .u8 (w8 (sr4 (Hs4 (J2k F) (nb4 F.length) i) 8))) (hv := by intro W; exact Q1k rfl rfl)
     refine MV ?_
     refine MW ?_ (v := .int .u8 (w8 (sr4 (Hs4 (J2k F) (nb4 F.length) i) 0))) (hv := by intro W; rw [V27]; exact Q1k rfl rfl)
     refine MW ?_ (v := .pointer (some ⟨D, 0 + (4 * i), none⟩)) (hv := fun _ => J7 (m := 32) (by decide) (by omega) Tryz.underlying23 (by kernel_rfl) rfl rfl rfl)
     refine MP 0 (v := .int .u8 (w8 (sr4 (Hs4 (J2k F) (nb4 F.length) i) 24))) (cs' := J0 .u8 32 (J6v (Hs4 (J2k F) (nb4 F.length)) (4 * i + 1))) ?_ (hs := by rw [J2, Nat.zero_add]; omega) (hc := by rw [Nat.zero_add, V6]; exact congrArg (J0 .u8 32) (J6r (Hs4 (J2k F) (nb4 F.length)) i 0 (by decide)))
     refine MW ?_ (v := .pointer (some ⟨D, 0 + (4 * i + 1), none⟩)) (hv := fun _ => J7 (m := 32) (by decide) (by omega) Tryz.underlying23 (by kernel_rfl) rfl rfl rfl)
     refine MP 0 (v := .int .u8 (w8 (sr4 (Hs4 (J2k F) (nb4 F.length) i) 16))) (cs' := J0 .u8 32 (J6v (Hs4 (J2k F) (nb4 F.length)) (4 * i + 2))) ?_ (hs := by rw [J2, Nat.zero_add]; omega) (hc := by rw [Nat.zero_add, V6]; exact congrArg (J0 .u8 32) (J6r (Hs4 (J2k F) (nb4 F.length)) i 1 (by decide)))
     refine MW ?_ (v := .pointer (some ⟨D, 0 + (4 * i + 2), none⟩)) (hv := fun _ => J7 (m := 32) (by decide) (by omega) Tryz.underlying23 (by kernel_rfl) rfl rfl rfl)
     refine MP 0 (v := .int .u8 (w8 (sr4 (Hs4 (J2k F) (nb4 F.length) i) 8))) (cs' := J0 .u8 32 (J6v (Hs4 (J2k F) (nb4 F.length)) (4 * i + 3))) ?_ (hs := by rw [J2, Nat.zero_add]; omega) (hc := by rw [Nat.zero_add, V6]; exact congrArg (J0 .u8 32) (J6r (Hs4 (J2k F) (nb4 F.length)) i 2 (by decide)))
     refine MW ?_ (v := .pointer (some ⟨D, 0 + (4 * i + 3), none⟩)) (hv := fun _ => J7 (m := 32) (by decide) (by omega) Tryz.underlying23 (by kernel_rfl) rfl rfl rfl)
     refine MP 0 (v := .int .u8 (w8 (sr4 (Hs4 (J2k F) (nb4 F.length) i) 0))) (cs' := J0 .u8 32 (J6v (Hs4 (J2k F) (nb4 F.length)) (4 * i + 4))) ?_ (hs := by rw [J2, Nat.zero_add]; omega) (hc := by rw [Nat.zero_add, V6]; exact congrArg (J0 .u8 32) (J6r (Hs4 (J2k F) (nb4 F.length)) i 3 (by decide)))
     refine MZ fun W hS => ?_
     go_wp2
     go_roundw
     case rel => exact ⟨i + 1, by omega, by go_num, (by rw [show 4 * (i + 1) = 4 * i + 4 by omega]; exact hS)⟩
     case measure => simp [intOf]; omega
    obtain rfl : i = 8 := by omega
    rw [show 4 * 8 = 32 by rfl, Z4i] at hS
    go_upto_region 16 with fail
    refine RL hS ?_
    clear hS
    refine MW ?_ (v := .bool false)
    refine MZ fun W hS => ?_
    go_upto_region 20 with fail
    refine RL hS ?_
    clear hS
    refine ML 0 ?_
    refine MR 1 ?_ 
    refine MZ fun W hS => ?_
    go_wp2
    refine bodyPost_ret (Y3 rfl rfl (hS.blk (i := 1) rfl) (by kernel_rfl) (by rw [J2]; kernel_rfl)) rfl ⟨rfl, hS.ext⟩
theorem Y8y (ps : List (List UInt8)) (A : Option Addr) (c : Nat) (F : List UInt8) (hF : ps.flatten = F) (hlen : F.length ≤ 70368744177664) (hpn : ps.length ≤ 9223372036854775000) (w : World) (hps : ∀ i l, ps[i]? = some l → ∃ ad u, A = some ad ∧ w.cell? (ad.add i) = some u ∧ Sl w u l) (hG : GS4 w) :
  Calls Tryz.prog 45 #[.slice A ps.length c] w fun e w' => K6 (.agg (J0 .u8 32 (sm4 F))) w w' e := by
 have HG := Lib.hid hG
 have J := Lib.hid hps
 clear hG hps
 have hS := SH.nil [] w
 go_enter Tryz.func45, Tryz.ntmps45
 go_upto_region 0 with fail
 refine RL hS ?_
 clear hS
 refine MN (z := J0 .u8 32 (fun _ => 0)) (t := 23) ?_
 intro S
 refine MZ fun W hS => ?_
 go_upto_region 1 with fail
 refine RL hS ?_
 clear hS
 refine ME (fun W hS => (Y8v W (J2j HG.out hS.ext)).mono fun e W' ⟨p, h1, h2, h3, h4⟩ => ⟨p, h1, (hS.new (x := .b p _ _) h3 h4.1 (fun k hk => by rw [List.mem_singleton.1 hk]; exact h2) rfl rfl).onil rfl⟩) ?_
 intro p6
 refine MV ?_
 refine MZ fun W hS => ?_
 go_upto_region 2 with fail
 refine RL hS ?_
 clear hS
 refine MV ?_
 refine MV ?_
 refine MW ?_ (v := .int .i64 0)
 refine MZ fun W hS => ?_
 go_wp2_with fail
 go_loopw [9] (fun ii wr => ∃ (i : Nat) (bv : Value), (i ≤ ps.length) ∧ (ii = .int .i64 (i : Int)) ∧ SH [] w wr [.b p6 (hcs bv (List.take i ps).flatten) 196, .o bv (hr4 (List.take i ps).flatten), .b S (J0 .u8 32 (fun _ => 0)) 23])
  (fun ii _ => ps.length - (intOf ii).toNat)
 case atStart => exact ⟨0, (.slice none 0 0), Nat.zero_le _, rfl, (by rw [List.take_zero, List.flatten_nil]; exact (hS.pick [1, 0, 2]))⟩
 clear hS
 case round =>
  obtain ⟨i, bv, hi, rfl, hS⟩ := hrel
  by_cases D : i < ps.length
  ·
   obtain ⟨l_, G⟩ : ∃ l, ps[i]? = some l := ⟨_, List.getElem?_eq_getElem D⟩
   obtain ⟨T, u_, U, N, M⟩ := J.out i l_ G
   have X : (List.take i ps).flatten.length + l_.length ≤ F.length := by rw [← hF, ← List.length_append, ← J89 G]; exact Q81 _ _
   go_upto_region 3 with fail
   refine RL hS ?_
   clear hS
   refine MW ?_ (v := .bool true)
   refine MZ fun W hS => ?_
   go_upto_region 4 with fail
   refine RL hS ?_
   clear hS
   refine MW ?_ (v := .pointer (some (T.add i))) (hv := fun _ => Z1w (j := i) D rfl (by rw [← U]; rfl) rfl)
   refine MF (v := u_) (fun W hS => J04 rfl rfl (J2b N hS.ext) (by kernel_rfl)) ?_
   refine MV ?_
   refine MZ fun W hS => ?_
   go_upto_region 5 with fail
   refine RL hS ?_
   clear hS
   refine MV ?_
   refine MV ?_
   refine ME (V := fun _ => .tuple #[]) (fun W hS => Q78 [2, 3, 1, 0] [4] ((hS.ent M).entp (Z4f HG.out)) (fun hS => Z8x p6 bv u_ (List.take i ps).flatten l_ (by omega) W hS) (fun _ => ⟨.inr ⟨rfl, rfl⟩, .inr ⟨rfl, rfl⟩, .inl (by simp), .inl (by simp), trivial⟩)) ?_
   intro R
   refine MD 2 ?_
   refine MD 2 ?_
   refine MZ fun W hS => ?_
   go_wp2
   go_roundw
   case rel => exact ⟨i + 1, R, by omega, by go_num, (by rw [J89 G]; exact hS)⟩
   case measure => simp [intOf]; omega
  obtain rfl : i = ps.length := by omega
  rw [List.take_length, hF] at hS
  go_upto_region 3 with fail
  refine RL hS ?_
  clear hS
  refine MW ?_ (v := .bool false)
  refine MZ fun W hS => ?_
  go_upto_region 7 with fail
  refine RL hS ?_
  clear hS
  refine MV ?_
  refine MC (v := .agg (J0 .u8 32 (sm4 F))) (fun W hS => Y2u p6 bv F hlen W (hS.blk (i := 0) rfl) (hS.osl (i := 1) rfl) (J2j HG.out hS.ext)) ?_
  refine MR 2 ?_ 
  refine MZ fun W hS => ?_
  go_wp2
  refine bodyPost_ret (Y3 rfl rfl (hS.blk (i := 2) rfl) (by kernel_rfl) (by rw [J2]; kernel_rfl)) rfl ⟨rfl, hS.ext⟩
end

section
attribute [local irreducible] wpList J01 wpX
def lf (k v : Nat) : Array Value := J0 .u8 32 (Q3 k) ++ J0 .u8 32 (Q3 v)
section
variable {k v : Nat}
theorem J4u : (lf k v).size = 64 := by unfold lf; rw [Array.size_append, J2, J2]
theorem Z3c : ∀ i u, (J0 .u8 32 (Q3 k))[i]? = some u → (lf k v)[0 + i]? = some u := fun i u h => by rw [Nat.zero_add]; exact J3y h
theorem V3y : ∀ i u, (J0 .u8 32 (Q3 v))[i]? = some u → (lf k v)[32 + i]? = some u := fun i u h => J6t (J2 _ _ _) h
end
section
variable {s : Value} {th : Bool} {a x : Nat}
end
section
variable {s : Value} {th : Bool} {a x k y : Nat} {v : Value}
end
abbrev Lf := Nat × Nat
theorem Y4z {A B : Nat} (h : A = B) (w : World) : (Op.equalIn 10000 23 (.agg (J0 .u8 32 (Q3 A))) (.agg (J0 .u8 32 (Q3 B)))).run Tryz.prog w = .ok true w := by
 subst h
 rw [J29 (P := Tryz.prog) w 9998 23 5 32 .u8 (J0 .u8 32 (Q3 A)) (J0 .u8 32 (Q3 A)) (Q3 A) (Q3 A) Tryz.underlying23 Tryz.underlying5 (by kernel_rfl) (fun i hi => J4 _ _ _ _ hi) (fun i hi => J4 _ _ _ _ hi)]
 rw [(J4x _ _ _).2 fun _ _ => rfl]
end

section
set_option maxHeartbeats 1500000
attribute [local irreducible] wpList

end

section
def GR4 (w : World) : Prop := Rd w 1 (J0 .i64 64 kf4) ∧ Rd w 0 (J0 .i64 8 hf4)
theorem Y07 {w W : World} (h : GR4 w) (e : Ext w W) : GR4 W := ⟨h.1.ext e, h.2.ext e⟩
/-! ### a word out of four bytes -/
/-! ### sums with one mask -/
/-! ### the bytes of the words -/
def bo4 (H : Nat → Int) (j : Nat) : UInt8 := u8 (ob4 H j).toNat
theorem Y6a (H : Nat → Int) (j : Nat) : ((bo4 H j).toNat : Int) = ob4 H j := by
  have := Y4s (sr4 (H (j / 4)) (8 * (3 - j % 4)))
  unfold bo4
  rw [J91]
  unfold ob4
  omega
def wb4 (H : Nat → Int) (n : Nat) : List UInt8 := (List.range n).map (bo4 H)
theorem Q8r (H : Nat → Int) (n : Nat) : (wb4 H n).length = n := by simp [wb4]
def Z2x (l : List UInt8) : List UInt8 := wb4 (Hs4 (J2k l) (nb4 l.length)) 32
def hs4 (l : List UInt8) : Nat := le (Z2x l)
theorem Q0m (l : List UInt8) : (Z2x l).length = 32 := Q8r _ _
theorem Q8s (l : List UInt8) : (J0 .u8 32 (sm4 l)).toList = bs8 (Z2x l) := by
  unfold J0 bs8 Z2x wb4
  rw [List.map_map]
  simp only [List.map_inj_left, Function.comp]
  intro j _
  rw [Y6a]; rfl
theorem Y08 (F : List UInt8) : Z2x F = lb 32 (hs4 F) := (Q8t (Q0m F)).symm
theorem Y6b (F : List UInt8) : J0 .u8 32 (sm4 F) = J0 .u8 32 (Q3 (hs4 F)) := Q6p (by rw [Q8s, Y08, J72, J2d])
theorem Z57 (F : List UInt8) : hs4 F < 2 ^ 256 := by have := Q6q (Z2x F); rwa [Q0m] at this
end

section
set_option maxHeartbeats 3000000
attribute [local irreducible] wpList J01 wpX
theorem Y2w {w : World} {o : Oper} {a : Act} {x : Operand} {c : UInt8} (ho : o.op = .convert 5 3 x) (hx : a.eval x = .int .u8 (c.toNat : Int)) : (execOp a.eval o).run Tryz.prog w = .ok (.value (.int .i64 (c.toNat : Int))) w := by
 have hc := c.toNat_lt
 have hw : IntKind.wrap .i64 (c.toNat : Int) = (c.toNat : Int) := by rw [IntKind.wrap_i64]; omega
 simp [execOp, ho, hx, convert, run_underlying Tryz.underlying5, run_underlying Tryz.underlying3, Sem.run_bind, Conv.intToInt, hw]
end
end Go.Proofs.YtejkmhgkkibafaaGreatDoor
