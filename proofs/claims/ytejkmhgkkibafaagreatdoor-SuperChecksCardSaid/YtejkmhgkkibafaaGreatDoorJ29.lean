/- Contracts and plain laws that superChecks_holds rests on. Conditions: the variables' cells hold the numbers of the program's text. -/
import Derived.Test.YtejkmhgkkibafaaGreatDoorJ28
import Derived.Test.YtejkmhgkkibafaaGreatDoorJ6
import Derived.Test.YtejkmhgkkibafaaGreatDoorJ8
import Derived.Test.YtejkmhgkkibafaaGreatDoorJ5
open Go.RowKit
set_option maxRecDepth 100000
set_option linter.unusedSimpArgs false
set_option linter.unusedVariables false
namespace Go.Proofs.YtejkmhgkkibafaaGreatDoor
section
set_option maxHeartbeats 1500000
attribute [local irreducible] wpList U0 wpX
theorem Q1a {w : World} {o : Oper} {a : Act} {x : Operand} {p : Int} (ho : o.op = .convert 193 5 x) (hx : a.eval x = .int .u32 p) : (execOp a.eval o).run Tryz.prog w = .ok (.value (.int .u8 (w8 p))) w := by
 simp [execOp, ho, hx, convert, run_underlying Tryz.underlying5, run_underlying Tryz.underlying193, Sem.run_bind, Conv.intToInt, w8]
theorem Y29 {w : World} : (isAgg 193).run Tryz.prog w = .ok false w := by
 simp [isAgg, run_underlying Tryz.underlying193, Sem.run_bind]
theorem V1n (x : Int) : sr4 x 0 = x := by unfold sr4; simp

theorem Y2a (p : Nat) (v : Value) (F : List UInt8) (hlen : F.length ≤ 70368744177664) (w : World) (hkB : Blk w p (hcs v F) 196) (hrS : Sl w v (hr4 F)) (hG : GS4 w) :
  Calls Tryz.prog 86 #[.pointer (some ⟨p, 0, none⟩)] w fun e w' => K7 (.agg (J0 .u8 32 (sm4 F))) w w' e := by
 have HG := Lib.hid hG
 clear hG
 have hS := SH.nil [] w
 have ν := Q9m F
 have hN : zc4 (hr4 F).length = zc4 F.length := by rw [J6i, Z8h]
 have η := (Q2w (hr4 F).length).2
 obtain ⟨PD, M⟩ : ∃ PD, PD = (J2c F).drop (64 * (F.length / 64)) := ⟨_, rfl⟩
 have J : PD.length = 64 * nb4 (hr4 F).length := by have h1 := Q7z F; have h2 := Q80 F; rw [M, List.length_drop, h1]; omega
 have N := Lib.hid M
 clear M
 go_enter Tryz.func86, Tryz.ntmps86
 go_upto_region 0 with fail
 refine RL hS ?_
 clear hS
 refine MN (z := J0 .u8 32 (fun _ => 0)) (t := 23) ?_
 intro X5
 refine MZ fun W hS => ?_
 go_upto_region 3 with fail
 refine RL hS ?_
 clear hS
 refine MO (m := []) (n := 0) (z := #[]) ?_
 intro τ
 refine MV ?_
 refine MV ?_
 refine MV ?_
 refine MF (v := v) (fun W hS => X8 rfl rfl (by rw [J7 (J2 hkB hS.ext)]; exact Q19) (by kernel_rfl)) ?_
 refine MA 0 (xs := []) (ys := (hr4 F)) (fun W hS => (J5j hrS hS.ext)) (by first | omega | (simp only [List.length_append, List.length_cons, List.length_nil, List.length_replicate, List.length_drop]; omega)) ?_
 intro ρ
 refine MT (fun W hS => by rw [List.nil_append] at hS; exact hS) ?_
 refine MO (m := [128]) (n := 1) (z := #[.int .u8 128]) ?_
 intro ζ
 refine MA 1 (xs := (hr4 F)) (ys := [128]) (fun W hS => (hS.osl (i := 0) rfl)) (by first | omega | (simp only [List.length_append, List.length_cons, List.length_nil, List.length_replicate, List.length_drop]; omega)) ?_
 intro Δ
 refine MV ?_
 refine MZ fun W hS => ?_
 go_wp2_with fail
 go_loopw [3] (fun sv wr => ∃ (k : Nat) (bv : Value), (k ≤ zc4 (hr4 F).length) ∧ (bv = sv) ∧ SH [] w wr [.o bv (hr4 F ++ [128] ++ List.replicate k 0), .b X5 (J0 .u8 32 (fun _ => 0)) 23])
  (fun sv _ => F.length + 300 - J8c sv)
 case atStart => exact ⟨0, _, Nat.zero_le _, rfl, (by have h_ := (hS.pick [1, 2]); rw [List.replicate_zero, List.append_nil]; exact h_)⟩
 clear hS
 case round =>
  obtain ⟨k, bv, hk, rfl, hS⟩ := hrel
  have lb := J5k (hS.osl (i := 0) rfl)
  by_cases hz : k < zc4 (hr4 F).length
  ·
   have U := Y8a hz
   go_upto_region 4 with fail
   refine RL hS ?_
   clear hS
   refine MV ?_
   refine MF (v := .int .i64 ((hr4 F ++ [128] ++ List.replicate k 0).length : Int)) (fun W hS => J1u (hS.osl (i := 0) rfl) rfl rfl) ?_
   refine MW ?_ (v := .int .i64 ((((hr4 F).length + 1 + k) % 64 : Nat) : Int)) (hv := by intro W; go_simp; (try simp only [List.length_append, List.length_cons, List.length_nil, List.length_replicate]); rw [Int.tmod_eq_emod_of_nonneg (by omega)]; omega)
   refine MW ?_ (v := .bool true) (hv := by intro W; go_simp; omega)
   refine MZ fun W hS => ?_
   go_upto_region 5 with fail
   refine RL hS ?_
   clear hS
   refine MV ?_
   refine MO (m := [0]) (n := 1) (z := #[.int .u8 0]) ?_
   intro ψ
   refine MA 1 (xs := (hr4 F ++ [128] ++ List.replicate k 0)) (ys := [0]) (fun W hS => (hS.osl (i := 0) rfl)) (by first | omega | (simp only [List.length_append, List.length_cons, List.length_nil, List.length_replicate, List.length_drop]; omega)) ?_
   intro Y
   refine MV ?_
   refine MZ fun W hS => ?_
   have la := J5k (hS.osl (i := 1) rfl)
   simp only [List.length_append, List.length_cons, List.length_nil, List.length_replicate] at la lb
   go_wp2
   go_roundw
   case rel => exact ⟨k + 1, _, by omega, rfl, (by have h_ := (hS.pick [1, 2]); rw [List.append_assoc _ (List.replicate k 0), ← List.replicate_succ'] at h_; exact h_)⟩
   case measure => simp only [la, lb]; omega
  obtain rfl : k = zc4 (hr4 F).length := by omega
  have U := (Q2w (hr4 F).length).1
  go_upto_region 4 with fail
  refine RL hS ?_
  clear hS
  refine MV ?_
  refine MF (v := .int .i64 ((hr4 F ++ [128] ++ List.replicate (zc4 (hr4 F).length) 0).length : Int)) (fun W hS => J1u (hS.osl (i := 0) rfl) rfl rfl) ?_
  refine MW ?_ (v := .int .i64 ((((hr4 F).length + 1 + zc4 (hr4 F).length) % 64 : Nat) : Int)) (hv := by intro W; go_simp; (try simp only [List.length_append, List.length_cons, List.length_nil, List.length_replicate]); rw [Int.tmod_eq_emod_of_nonneg (by omega)]; omega)
  refine MW ?_ (v := .bool false) (hv := by intro W; first | (go_simp; done) | (go_simp; omega))
  refine MZ fun W hS => ?_
  go_wp2_with fail
  refine wp_loop_rounds 9 ?_
  rw [rounds_succ]
  go_upto_region 9 with fail
  refine RL hS ?_
  clear hS
  refine MV ?_
  refine MV ?_
  refine MV ?_
  refine MV ?_
  refine MF (v := .int .i64 (F.length : Int)) (fun W hS => X8 rfl rfl (by rw [J7 (J2 hkB hS.ext)]; exact J3l) (by kernel_rfl)) ?_
  refine MW ?_ (v := .int .u64 ((F.length : Nat) : Int)) (hv := by intro W; go_simp; (try simp only [IntKind.wrap_u64]); omega)
  refine MW ?_ (v := .int .u64 ((8 * F.length : Nat) : Int)) (hv := by intro W; rw [show ((8 * F.length : Nat) : Int) = sl ((F.length : Nat) : Int) 3 from (by unfold sl; rw [IntKind.wrap_u64]; omega)]; exact J2l (n := 3) (by decide) rfl rfl rfl)
  refine MW ?_ (v := .int .i64 7)
  refine MW ?_ (v := .int .i64 56)
  refine MW ?_ (v := .int .u64 (sr ((8 * F.length : Nat) : Int) 56)) (hv := fun _ => J09 (n := 56) (by decide) rfl rfl rfl)
  refine MW ?_ (v := .int .u8 ((u8 ((8 * F.length) / 72057594037927936)).toNat : Int)) (hv := by intro W; rw [← J32 (8 * F.length) 56 72057594037927936 (by decide)]; exact J27 rfl rfl)
  refine MO (m := [u8 ((8 * F.length) / 72057594037927936)]) (n := 1) (z := #[.int .u8 ((u8 ((8 * F.length) / 72057594037927936)).toNat : Int)]) ?_
  intro φ
  refine MA 1 (xs := (hr4 F ++ [128] ++ List.replicate (zc4 (hr4 F).length) 0)) (ys := [u8 ((8 * F.length) / 72057594037927936)]) (fun W hS => (hS.osl (i := 0) rfl)) (by first | omega | (simp only [List.length_append, List.length_cons, List.length_nil, List.length_replicate, List.length_drop]; omega)) ?_
  intro Z
  refine MV ?_
  refine MZ fun W hS => ?_
  go_wp2_with fail
  rw [rounds_succ]
  go_upto_region 9 with fail
  refine RL hS ?_
  clear hS
  refine MV ?_
  refine MV ?_
  refine MV ?_
  refine MV ?_
  refine MF (v := .int .i64 (F.length : Int)) (fun W hS => X8 rfl rfl (by rw [J7 (J2 hkB hS.ext)]; exact J3l) (by kernel_rfl)) ?_
  refine MW ?_ (v := .int .u64 ((F.length : Nat) : Int)) (hv := by intro W; go_simp; (try simp only [IntKind.wrap_u64]); omega)
  refine MW ?_ (v := .int .u64 ((8 * F.length : Nat) : Int)) (hv := by intro W; rw [show ((8 * F.length : Nat) : Int) = sl ((F.length : Nat) : Int) 3 from (by unfold sl; rw [IntKind.wrap_u64]; omega)]; exact J2l (n := 3) (by decide) rfl rfl rfl)
  refine MW ?_ (v := .int .i64 6)
  refine MW ?_ (v := .int .i64 48)
  refine MW ?_ (v := .int .u64 (sr ((8 * F.length : Nat) : Int) 48)) (hv := fun _ => J09 (n := 48) (by decide) rfl rfl rfl)
  refine MW ?_ (v := .int .u8 ((u8 ((8 * F.length) / 281474976710656)).toNat : Int)) (hv := by intro W; rw [← J32 (8 * F.length) 48 281474976710656 (by decide)]; exact J27 rfl rfl)
  refine MD 0 ?_
  refine MO (m := [u8 ((8 * F.length) / 281474976710656)]) (n := 1) (z := #[.int .u8 ((u8 ((8 * F.length) / 281474976710656)).toNat : Int)]) ?_
  intro θ
  refine MA 1 (xs := ((hr4 F ++ [128] ++ List.replicate (zc4 (hr4 F).length) 0) ++ [u8 ((8 * F.length) / 72057594037927936)])) (ys := [u8 ((8 * F.length) / 281474976710656)]) (fun W hS => (hS.osl (i := 0) rfl)) (by first | omega | (simp only [List.length_append, List.length_cons, List.length_nil, List.length_replicate, List.length_drop]; omega)) ?_
  intro ξ
  refine MV ?_
  refine MZ fun W hS => ?_
  go_wp2_with fail
  rw [rounds_succ]
  go_upto_region 9 with fail
  refine RL hS ?_
  clear hS
  refine MV ?_
  refine MV ?_
  refine MV ?_
  refine MV ?_
  refine MF (v := .int .i64 (F.length : Int)) (fun W hS => X8 rfl rfl (by rw [J7 (J2 hkB hS.ext)]; exact J3l) (by kernel_rfl)) ?_
  refine MW ?_ (v := .int .u64 ((F.length : Nat) : Int)) (hv := by intro W; go_simp; (try simp only [IntKind.wrap_u64]); omega)
  refine MW ?_ (v := .int .u64 ((8 * F.length : Nat) : Int)) (hv := by intro W; rw [show ((8 * F.length : Nat) : Int) = sl ((F.length : Nat) : Int) 3 from (by unfold sl; rw [IntKind.wrap_u64]; omega)]; exact J2l (n := 3) (by decide) rfl rfl rfl)
  refine MW ?_ (v := .int .i64 5)
  refine MW ?_ (v := .int .i64 40)
  refine MW ?_ (v := .int .u64 (sr ((8 * F.length : Nat) : Int) 40)) (hv := fun _ => J09 (n := 40) (by decide) rfl rfl rfl)
  refine MW ?_ (v := .int .u8 ((u8 ((8 * F.length) / 1099511627776)).toNat : Int)) (hv := by intro W; rw [← J32 (8 * F.length) 40 1099511627776 (by decide)]; exact J27 rfl rfl)
  refine MD 0 ?_
  refine MO (m := [u8 ((8 * F.length) / 1099511627776)]) (n := 1) (z := #[.int .u8 ((u8 ((8 * F.length) / 1099511627776)).toNat : Int)]) ?_
  intro γ
  refine MA 1 (xs := (((hr4 F ++ [128] ++ List.replicate (zc4 (hr4 F).length) 0) ++ [u8 ((8 * F.length) / 72057594037927936)]) ++ [u8 ((8 * F.length) / 281474976710656)])) (ys := [u8 ((8 * F.length) / 1099511627776)]) (fun W hS => (hS.osl (i := 0) rfl)) (by first | omega | (simp only [List.length_append, List.length_cons, List.length_nil, List.length_replicate, List.length_drop]; omega)) ?_
  intro β
  refine MV ?_
  refine MZ fun W hS => ?_
  go_wp2_with fail
  rw [rounds_succ]
  go_upto_region 9 with fail
  refine RL hS ?_
  clear hS
  refine MV ?_
  refine MV ?_
  refine MV ?_
  refine MV ?_
  refine MF (v := .int .i64 (F.length : Int)) (fun W hS => X8 rfl rfl (by rw [J7 (J2 hkB hS.ext)]; exact J3l) (by kernel_rfl)) ?_
  refine MW ?_ (v := .int .u64 ((F.length : Nat) : Int)) (hv := by intro W; go_simp; (try simp only [IntKind.wrap_u64]); omega)
  refine MW ?_ (v := .int .u64 ((8 * F.length : Nat) : Int)) (hv := by intro W; rw [show ((8 * F.length : Nat) : Int) = sl ((F.length : Nat) : Int) 3 from (by unfold sl; rw [IntKind.wrap_u64]; omega)]; exact J2l (n := 3) (by decide) rfl rfl rfl)
  refine MW ?_ (v := .int .i64 4)
  refine MW ?_ (v := .int .i64 32)
  refine MW ?_ (v := .int .u64 (sr ((8 * F.length : Nat) : Int) 32)) (hv := fun _ => J09 (n := 32) (by decide) rfl rfl rfl)
  refine MW ?_ (v := .int .u8 ((u8 ((8 * F.length) / 4294967296)).toNat : Int)) (hv := by intro W; rw [← J32 (8 * F.length) 32 4294967296 (by decide)]; exact J27 rfl rfl)
  refine MD 0 ?_
  refine MO (m := [u8 ((8 * F.length) / 4294967296)]) (n := 1) (z := #[.int .u8 ((u8 ((8 * F.length) / 4294967296)).toNat : Int)]) ?_
  intro X
  refine MA 1 (xs := ((((hr4 F ++ [128] ++ List.replicate (zc4 (hr4 F).length) 0) ++ [u8 ((8 * F.length) / 72057594037927936)]) ++ [u8 ((8 * F.length) / 281474976710656)]) ++ [u8 ((8 * F.length) / 1099511627776)])) (ys := [u8 ((8 * F.length) / 4294967296)]) (fun W hS => (hS.osl (i := 0) rfl)) (by first | omega | (simp only [List.length_append, List.length_cons, List.length_nil, List.length_replicate, List.length_drop]; omega)) ?_
  intro χ
  refine MV ?_
  refine MZ fun W hS => ?_
  go_wp2_with fail
  rw [rounds_succ]
  go_upto_region 9 with fail
  refine RL hS ?_
  clear hS
  refine MV ?_
  refine MV ?_
  refine MV ?_
  refine MV ?_
  refine MF (v := .int .i64 (F.length : Int)) (fun W hS => X8 rfl rfl (by rw [J7 (J2 hkB hS.ext)]; exact J3l) (by kernel_rfl)) ?_
  refine MW ?_ (v := .int .u64 ((F.length : Nat) : Int)) (hv := by intro W; go_simp; (try simp only [IntKind.wrap_u64]); omega)
  refine MW ?_ (v := .int .u64 ((8 * F.length : Nat) : Int)) (hv := by intro W; rw [show ((8 * F.length : Nat) : Int) = sl ((F.length : Nat) : Int) 3 from (by unfold sl; rw [IntKind.wrap_u64]; omega)]; exact J2l (n := 3) (by decide) rfl rfl rfl)
  refine MW ?_ (v := .int .i64 3)
  refine MW ?_ (v := .int .i64 24)
  refine MW ?_ (v := .int .u64 (sr ((8 * F.length : Nat) : Int) 24)) (hv := fun _ => J09 (n := 24) (by decide) rfl rfl rfl)
  refine MW ?_ (v := .int .u8 ((u8 ((8 * F.length) / 16777216)).toNat : Int)) (hv := by intro W; rw [← J32 (8 * F.length) 24 16777216 (by decide)]; exact J27 rfl rfl)
  refine MD 0 ?_
  refine MO (m := [u8 ((8 * F.length) / 16777216)]) (n := 1) (z := #[.int .u8 ((u8 ((8 * F.length) / 16777216)).toNat : Int)]) ?_
  intro μ
  refine MA 1 (xs := (((((hr4 F ++ [128] ++ List.replicate (zc4 (hr4 F).length) 0) ++ [u8 ((8 * F.length) / 72057594037927936)]) ++ [u8 ((8 * F.length) / 281474976710656)]) ++ [u8 ((8 * F.length) / 1099511627776)]) ++ [u8 ((8 * F.length) / 4294967296)])) (ys := [u8 ((8 * F.length) / 16777216)]) (fun W hS => (hS.osl (i := 0) rfl)) (by first | omega | (simp only [List.length_append, List.length_cons, List.length_nil, List.length_replicate, List.length_drop]; omega)) ?_
  intro α
  refine MV ?_
  refine MZ fun W hS => ?_
  go_wp2_with fail
  rw [rounds_succ]
  go_upto_region 9 with fail
  refine RL hS ?_
  clear hS
  refine MV ?_
  refine MV ?_
  refine MV ?_
  refine MV ?_
  refine MF (v := .int .i64 (F.length : Int)) (fun W hS => X8 rfl rfl (by rw [J7 (J2 hkB hS.ext)]; exact J3l) (by kernel_rfl)) ?_
  refine MW ?_ (v := .int .u64 ((F.length : Nat) : Int)) (hv := by intro W; go_simp; (try simp only [IntKind.wrap_u64]); omega)
  refine MW ?_ (v := .int .u64 ((8 * F.length : Nat) : Int)) (hv := by intro W; rw [show ((8 * F.length : Nat) : Int) = sl ((F.length : Nat) : Int) 3 from (by unfold sl; rw [IntKind.wrap_u64]; omega)]; exact J2l (n := 3) (by decide) rfl rfl rfl)
  refine MW ?_ (v := .int .i64 2)
  refine MW ?_ (v := .int .i64 16)
  refine MW ?_ (v := .int .u64 (sr ((8 * F.length : Nat) : Int) 16)) (hv := fun _ => J09 (n := 16) (by decide) rfl rfl rfl)
  refine MW ?_ (v := .int .u8 ((u8 ((8 * F.length) / 65536)).toNat : Int)) (hv := by intro W; rw [← J32 (8 * F.length) 16 65536 (by decide)]; exact J27 rfl rfl)
  refine MD 0 ?_
  refine MO (m := [u8 ((8 * F.length) / 65536)]) (n := 1) (z := #[.int .u8 ((u8 ((8 * F.length) / 65536)).toNat : Int)]) ?_
  intro σ
  refine MA 1 (xs := ((((((hr4 F ++ [128] ++ List.replicate (zc4 (hr4 F).length) 0) ++ [u8 ((8 * F.length) / 72057594037927936)]) ++ [u8 ((8 * F.length) / 281474976710656)]) ++ [u8 ((8 * F.length) / 1099511627776)]) ++ [u8 ((8 * F.length) / 4294967296)]) ++ [u8 ((8 * F.length) / 16777216)])) (ys := [u8 ((8 * F.length) / 65536)]) (fun W hS => (hS.osl (i := 0) rfl)) (by first | omega | (simp only [List.length_append, List.length_cons, List.length_nil, List.length_replicate, List.length_drop]; omega)) ?_
  intro ω
  refine MV ?_
  refine MZ fun W hS => ?_
  go_wp2_with fail
  rw [rounds_succ]
  go_upto_region 9 with fail
  refine RL hS ?_
  clear hS
  refine MV ?_
  refine MV ?_
  refine MV ?_
  refine MV ?_
  refine MF (v := .int .i64 (F.length : Int)) (fun W hS => X8 rfl rfl (by rw [J7 (J2 hkB hS.ext)]; exact J3l) (by kernel_rfl)) ?_
  refine MW ?_ (v := .int .u64 ((F.length : Nat) : Int)) (hv := by intro W; go_simp; (try simp only [IntKind.wrap_u64]); omega)
  refine MW ?_ (v := .int .u64 ((8 * F.length : Nat) : Int)) (hv := by intro W; rw [show ((8 * F.length : Nat) : Int) = sl ((F.length : Nat) : Int) 3 from (by unfold sl; rw [IntKind.wrap_u64]; omega)]; exact J2l (n := 3) (by decide) rfl rfl rfl)
  refine MW ?_ (v := .int .i64 1)
  refine MW ?_ (v := .int .i64 8)
  refine MW ?_ (v := .int .u64 (sr ((8 * F.length : Nat) : Int) 8)) (hv := fun _ => J09 (n := 8) (by decide) rfl rfl rfl)
  refine MW ?_ (v := .int .u8 ((u8 ((8 * F.length) / 256)).toNat : Int)) (hv := by intro W; rw [← J32 (8 * F.length) 8 256 (by decide)]; exact J27 rfl rfl)
  refine MD 0 ?_
  refine MO (m := [u8 ((8 * F.length) / 256)]) (n := 1) (z := #[.int .u8 ((u8 ((8 * F.length) / 256)).toNat : Int)]) ?_
  intro δ
  refine MA 1 (xs := (((((((hr4 F ++ [128] ++ List.replicate (zc4 (hr4 F).length) 0) ++ [u8 ((8 * F.length) / 72057594037927936)]) ++ [u8 ((8 * F.length) / 281474976710656)]) ++ [u8 ((8 * F.length) / 1099511627776)]) ++ [u8 ((8 * F.length) / 4294967296)]) ++ [u8 ((8 * F.length) / 16777216)]) ++ [u8 ((8 * F.length) / 65536)])) (ys := [u8 ((8 * F.length) / 256)]) (fun W hS => (hS.osl (i := 0) rfl)) (by first | omega | (simp only [List.length_append, List.length_cons, List.length_nil, List.length_replicate, List.length_drop]; omega)) ?_
  intro κ
  refine MV ?_
  refine MZ fun W hS => ?_
  go_wp2_with fail
  rw [rounds_succ]
  go_upto_region 9 with fail
  refine RL hS ?_
  clear hS
  refine MV ?_
  refine MV ?_
  refine MV ?_
  refine MV ?_
  refine MF (v := .int .i64 (F.length : Int)) (fun W hS => X8 rfl rfl (by rw [J7 (J2 hkB hS.ext)]; exact J3l) (by kernel_rfl)) ?_
  refine MW ?_ (v := .int .u64 ((F.length : Nat) : Int)) (hv := by intro W; go_simp; (try simp only [IntKind.wrap_u64]); omega)
  refine MW ?_ (v := .int .u64 ((8 * F.length : Nat) : Int)) (hv := by intro W; rw [show ((8 * F.length : Nat) : Int) = sl ((F.length : Nat) : Int) 3 from (by unfold sl; rw [IntKind.wrap_u64]; omega)]; exact J2l (n := 3) (by decide) rfl rfl rfl)
  refine MW ?_ (v := .int .i64 0)
  refine MW ?_ (v := .int .i64 0)
  refine MW ?_ (v := .int .u64 (sr ((8 * F.length : Nat) : Int) 0)) (hv := fun _ => J09 (n := 0) (by decide) rfl rfl rfl)
  refine MW ?_ (v := .int .u8 ((u8 (8 * F.length)).toNat : Int)) (hv := by intro W; rw [← Z1l (8 * F.length)]; exact J27 rfl rfl)
  refine MD 0 ?_
  refine MO (m := [u8 (8 * F.length)]) (n := 1) (z := #[.int .u8 ((u8 (8 * F.length)).toNat : Int)]) ?_
  intro V
  refine MA 1 (xs := ((((((((hr4 F ++ [128] ++ List.replicate (zc4 (hr4 F).length) 0) ++ [u8 ((8 * F.length) / 72057594037927936)]) ++ [u8 ((8 * F.length) / 281474976710656)]) ++ [u8 ((8 * F.length) / 1099511627776)]) ++ [u8 ((8 * F.length) / 4294967296)]) ++ [u8 ((8 * F.length) / 16777216)]) ++ [u8 ((8 * F.length) / 65536)]) ++ [u8 ((8 * F.length) / 256)])) (ys := [u8 (8 * F.length)]) (fun W hS => (hS.osl (i := 0) rfl)) (by first | omega | (simp only [List.length_append, List.length_cons, List.length_nil, List.length_replicate, List.length_drop]; omega)) ?_
  intro ε
  refine MV ?_
  refine MZ fun W hS => ?_
  go_wp2_with fail
  rw [rounds_succ]
  go_upto_region 10 with fail
  refine RL hS ?_
  clear hS
  refine MV ?_
  refine MV ?_
  refine MV ?_
  refine MF (v := .agg (J0 .u32 8 (hw4 F))) (fun W hS => J0g (vs := (J0 .u32 8 (hw4 F)).toList) rfl rfl (fun i v hv => by rw [J7 (J2 hkB hS.ext)]; exact Q7u i v (by simpa using hv)) (by kernel_rfl) (by first | kernel_rfl | (simp only [Array.length_toList]; rw [J1]; kernel_rfl))) ?_
  refine MN (z := J0 .u32 8 (fun _ => 0)) (t := 194) ?_
  intro T
  refine MR 0 ?_ 
  refine MZ fun W hS => ?_
  rw [Z1n, hN, ← Z43, ← N.out] at hS
  rw [Y2b F] at hS
  have hS := hS.read (i := 2) rfl (hS.osl (i := 2) rfl) J43
  go_wp2_with fail
  go_loopw [3] (fun sv wr => ∃ (j : Nat) (u : Value), (j ≤ nb4 (hr4 F).length) ∧ (u = sv) ∧ SH [] w wr [.b T (J0 .u32 8 (Hs4 (J2c F) (F.length / 64 + j))) 194, .s u (List.drop (64 * j) PD), .b X5 (J0 .u8 32 (fun _ => 0)) 23])
   (fun sv _ => J8c sv)
  case atStart => exact ⟨0, _, Nat.zero_le _, rfl, (hS.pick [0, 2, 3])⟩
  clear hS
  case round =>
   obtain ⟨j, u, hj, rfl, hS⟩ := hrel
   have lb := J5k (hS.sl (i := 1) rfl)
   by_cases R : j < nb4 (hr4 F).length
   ·
    have G : 64 ≤ (List.drop (64 * j) PD).length := by rw [List.length_drop, J]; omega
    go_upto_region 11 with fail
    refine RL hS ?_
    clear hS
    refine MV ?_
    refine MF (v := .int .i64 ((List.drop (64 * j) PD).length : Int)) (fun W hS => J1u (hS.sl (i := 1) rfl) rfl rfl) ?_
    refine MW ?_ (v := .bool true) (hv := by intro W; go_simp; (try simp only [List.length_drop, J]); omega)
    refine MZ fun W hS => ?_
    go_upto_region 13 with fail
    refine RX 4 hS ?_
    clear hS
    refine ML 0 ?_
    refine MV ?_
    refine MH 1 64 (m' := (List.take 64 (List.drop (64 * j) PD))) (by exact G) ?_
    intro S
    refine MC (v := .agg (J0 .u32 8 (J6h (Hs4 (J2c F) (F.length / 64 + j)) (bt (List.drop (64 * j) PD))))) (fun W hS => Q7y (Hs4 (J2c F) (F.length / 64 + j)) (List.drop (64 * j) PD) (List.take 64 (List.drop (64 * j) PD)) S G rfl W (hS.sl (i := 0) rfl) (J2b HG.out hS.ext)) ?_
    refine MZt ?_
    refine MR 1 ?_ 
    refine MZn fun W hS => ?_
    go_upto_region 12 with fail
    refine RL hS ?_
    clear hS
    refine MV ?_
    refine Mt 2 64 (m' := (List.drop (64 * (j + 1)) PD)) (by exact G) ?_ (hm := Q2v _ _)
    intro Γ
    refine MV ?_
    refine MZ fun W hS => ?_
    have la := J5k (hS.sl (i := 0) rfl)
    simp only [List.length_drop, J] at la lb
    rw [N.out, Z44, ← N.out] at hS
    go_wp2
    go_roundw
    case rel => exact ⟨j + 1, _, by omega, rfl, (hS.pick [2, 0, 4])⟩
    case measure => simp only [la, lb]; omega
   obtain rfl : j = nb4 (hr4 F).length := by omega
   rw [Q80] at hS
   go_upto_region 11 with fail
   refine RL hS ?_
   clear hS
   refine MV ?_
   refine MF (v := .int .i64 ((List.drop (64 * nb4 (hr4 F).length) PD).length : Int)) (fun W hS => J1u (hS.sl (i := 1) rfl) rfl rfl) ?_
   refine MW ?_ (v := .bool false) (hv := by intro W; first | (go_simp; done) | (go_simp; (try simp only [List.length_drop, J]); omega))
   refine MZ fun W hS => ?_
   go_upto_region 14 with fail
   refine RL hS ?_
   clear hS
   refine MN (z := J0 .u8 32 (fun _ => 0)) (t := 23) ?_
   intro D
   refine MZ fun W hS => ?_
   go_upto_region 15 with fail
   refine RL hS ?_
   clear hS
   refine ML 1 ?_
   refine MW ?_ (v := .int .i64 0)
   refine MZ fun W hS => ?_
   go_wp2_with fail
   go_loopw [59] (fun ii wr => ∃ (i : Nat), (i ≤ 8) ∧ (ii = .int .i64 (i : Int)) ∧ SH [] w wr [.b D (J0 .u8 32 (J6n (Hs4 (J2c F) (nb4 F.length)) (4 * i))) 23, .b X5 (J0 .u8 32 (fun _ => 0)) 23])
    (fun ii _ => 8 - (intOf ii).toNat)
   case atStart => exact ⟨0, Nat.zero_le _, rfl, (by rw [Nat.mul_zero, Q9n]; exact (hS.pick [0, 3]))⟩
   clear hS
   case round =>
    obtain ⟨i, hi, rfl, hS⟩ := hrel
    by_cases h8 : i < 8
    ·
     go_upto_region 16 with fail
     refine RL hS ?_
     clear hS
     refine MW ?_ (v := .bool true)
     refine MZ fun W hS => ?_
     go_upto_region 17 with fail
     refine RL hS ?_
     clear hS
     refine MV ?_
     refine MW ?_ (v := .int .u32 (Hs4 (J2c F) (nb4 F.length) i)) (hv := fun _ => Q5z (m := 8) h8 Tryz.underlying194 (by kernel_rfl) Y29 rfl rfl rfl)
     refine MV ?_
     refine MV ?_
     refine MZ fun W hS => ?_
     go_upto_region 18 with fail
     refine RL hS ?_
     clear hS
     refine MV ?_
     refine MW ?_ (v := .int .i64 (((4 * i : Nat) : Int))) (hv := by intro W; go_simp; (try simp only [IntKind.wrap_u64, IntKind.wrap_i64]); (try omega))
     refine MV ?_
     refine MW ?_ (v := .int .i64 (((4 * i : Nat) : Int))) (hv := by intro W; go_simp; (try simp only [IntKind.wrap_u64, IntKind.wrap_i64]); (try omega))
     refine MW ?_ (v := .int .i64 (((4 * i + 1 : Nat) : Int))) (hv := by intro W; go_simp; (try simp only [IntKind.wrap_u64, IntKind.wrap_i64]); (try omega))
     refine MV ?_
     refine MW ?_ (v := .int .i64 (((4 * i : Nat) : Int))) (hv := by intro W; go_simp; (try simp only [IntKind.wrap_u64, IntKind.wrap_i64]); (try omega))
     refine MW ?_ (v := .int .i64 (((4 * i + 2 : Nat) : Int))) (hv := by intro W; go_simp; (try simp only [IntKind.wrap_u64, IntKind.wrap_i64]); (try omega))
     refine MV ?_
     refine MW ?_ (v := .int .i64 (((4 * i : Nat) : Int))) (hv := by intro W; go_simp; (try simp only [IntKind.wrap_u64, IntKind.wrap_i64]); (try omega))
     refine MW ?_ (v := .int .i64 (((4 * i + 3 : Nat) : Int))) (hv := by intro W; go_simp; (try simp only [IntKind.wrap_u64, IntKind.wrap_i64]); (try omega))
     refine MV ?_
     refine MW ?_ (v := .int .u32 (sr4 (Hs4 (J2c F) (nb4 F.length) i) 24)) (hv := fun _ => J7i (n := 24) (by decide) rfl rfl rfl)
     refine MW ?_ (v := .int .u8 (w8 (sr4 (Hs4 (J2c F) (nb4 F.length) i) 24))) (hv := by intro W; exact Q1a rfl rfl)
     refine MV ?_
     refine MW ?_ (v := .int .u32 (sr4 (Hs4 (J2c F) (nb4 F.length) i) 16)) (hv := fun _ => J7i (n := 16) (by decide) rfl rfl rfl)
     refine MW ?_ (v := .int .u8 (w8 (sr4 (Hs4 (J2c F) (nb4 F.length) i) 16))) (hv := by intro W; exact Q1a rfl rfl)
     refine MV ?_
     refine MW ?_ (v := .int .u32 (sr4 (Hs4 (J2c F) (nb4 F.length) i) 8)) (hv := fun _ => J7i (n := 8) (by decide) rfl rfl rfl)
     refine MW ?_ (v := .int .u8 (w8 (sr4 (Hs4 (J2c F) (nb4 F.length) i) 8))) (hv := by intro W; exact Q1a rfl rfl)
     refine MV ?_
     refine MW ?_ (v := .int .u8 (w8 (sr4 (Hs4 (J2c F) (nb4 F.length) i) 0))) (hv := by intro W; rw [V1n]; exact Q1a rfl rfl)
     refine MW ?_ (v := .pointer (some ⟨D, 0 + (4 * i), none⟩)) (hv := fun _ => J5 (m := 32) (by decide) (by omega) Tryz.underlying23 (by kernel_rfl) rfl rfl rfl)
     refine MP 0 (v := .int .u8 (w8 (sr4 (Hs4 (J2c F) (nb4 F.length) i) 24))) (cs' := J0 .u8 32 (J6n (Hs4 (J2c F) (nb4 F.length)) (4 * i + 1))) ?_ (hs := by rw [J1, Nat.zero_add]; omega) (hc := by rw [Nat.zero_add, V4]; exact congrArg (J0 .u8 32) (J6j (Hs4 (J2c F) (nb4 F.length)) i 0 (by decide)))
     refine MW ?_ (v := .pointer (some ⟨D, 0 + (4 * i + 1), none⟩)) (hv := fun _ => J5 (m := 32) (by decide) (by omega) Tryz.underlying23 (by kernel_rfl) rfl rfl rfl)
     refine MP 0 (v := .int .u8 (w8 (sr4 (Hs4 (J2c F) (nb4 F.length) i) 16))) (cs' := J0 .u8 32 (J6n (Hs4 (J2c F) (nb4 F.length)) (4 * i + 2))) ?_ (hs := by rw [J1, Nat.zero_add]; omega) (hc := by rw [Nat.zero_add, V4]; exact congrArg (J0 .u8 32) (J6j (Hs4 (J2c F) (nb4 F.length)) i 1 (by decide)))
     refine MW ?_ (v := .pointer (some ⟨D, 0 + (4 * i + 2), none⟩)) (hv := fun _ => J5 (m := 32) (by decide) (by omega) Tryz.underlying23 (by kernel_rfl) rfl rfl rfl)
     refine MP 0 (v := .int .u8 (w8 (sr4 (Hs4 (J2c F) (nb4 F.length) i) 8))) (cs' := J0 .u8 32 (J6n (Hs4 (J2c F) (nb4 F.length)) (4 * i + 3))) ?_ (hs := by rw [J1, Nat.zero_add]; omega) (hc := by rw [Nat.zero_add, V4]; exact congrArg (J0 .u8 32) (J6j (Hs4 (J2c F) (nb4 F.length)) i 2 (by decide)))
     refine MW ?_ (v := .pointer (some ⟨D, 0 + (4 * i + 3), none⟩)) (hv := fun _ => J5 (m := 32) (by decide) (by omega) Tryz.underlying23 (by kernel_rfl) rfl rfl rfl)
     refine MP 0 (v := .int .u8 (w8 (sr4 (Hs4 (J2c F) (nb4 F.length) i) 0))) (cs' := J0 .u8 32 (J6n (Hs4 (J2c F) (nb4 F.length)) (4 * i + 4))) ?_ (hs := by rw [J1, Nat.zero_add]; omega) (hc := by rw [Nat.zero_add, V4]; exact congrArg (J0 .u8 32) (J6j (Hs4 (J2c F) (nb4 F.length)) i 3 (by decide)))
     refine MZ fun W hS => ?_
     go_wp2
     go_roundw
     case rel => exact ⟨i + 1, by omega, by go_num, (by rw [show 4 * (i + 1) = 4 * i + 4 by omega]; exact hS)⟩
     case measure => simp [intOf]; omega
    obtain rfl : i = 8 := by omega
    rw [show 4 * 8 = 32 by rfl, Z45] at hS
    go_upto_region 16 with fail
    refine RL hS ?_
    clear hS
    refine MW ?_ (v := .bool false)
    refine MZ fun W hS => ?_
    go_upto_region 20 with fail
    refine RL hS ?_
    clear hS
    refine ML 0 ?_
    refine MR 1 ?_ 
    refine MZ fun W hS => ?_
    go_wp2
    refine bodyPost_ret (Z6 rfl rfl (hS.blk (i := 1) rfl) (by kernel_rfl) (by rw [J1]; kernel_rfl)) rfl ⟨rfl, hS.ext⟩
theorem Y8c (ps : List (List UInt8)) (A : Option Addr) (c : Nat) (F : List UInt8) (hF : ps.flatten = F) (hlen : F.length ≤ 70368744177664) (hpn : ps.length ≤ 9223372036854775000) (w : World) (hps : ∀ i l, ps[i]? = some l → ∃ ad u, A = some ad ∧ w.cell? (ad.add i) = some u ∧ Sl w u l) (hG : GS4 w) :
  Calls Tryz.prog 45 #[.slice A ps.length c] w fun e w' => K7 (.agg (J0 .u8 32 (sm4 F))) w w' e := by
 have HG := Lib.hid hG
 have S := Lib.hid hps
 clear hG hps
 have hS := SH.nil [] w
 go_enter Tryz.func45, Tryz.ntmps45
 go_upto_region 0 with fail
 refine RL hS ?_
 clear hS
 refine MN (z := J0 .u8 32 (fun _ => 0)) (t := 23) ?_
 intro X5
 refine MZ fun W hS => ?_
 go_upto_region 1 with fail
 refine RL hS ?_
 clear hS
 refine ME (fun W hS => (Y89 W (J2b HG.out hS.ext)).mono fun e W' ⟨p, h1, h2, h3, h4⟩ => ⟨p, h1, (hS.new (x := .b p _ _) h3 h4.1 (fun k hk => by rw [List.mem_singleton.1 hk]; exact h2) rfl rfl).onil rfl⟩) ?_
 intro p6
 refine MV ?_
 refine MZ fun W hS => ?_
 go_upto_region 2 with fail
 refine RL hS ?_
 clear hS
 refine MV ?_
 refine MV ?_
 refine MW ?_ (v := .int .i64 0)
 refine MZ fun W hS => ?_
 go_wp2_with fail
 go_loopw [9] (fun ii wr => ∃ (i : Nat) (bv : Value), (i ≤ ps.length) ∧ (ii = .int .i64 (i : Int)) ∧ SH [] w wr [.b p6 (hcs bv (List.take i ps).flatten) 196, .o bv (hr4 (List.take i ps).flatten), .b X5 (J0 .u8 32 (fun _ => 0)) 23])
  (fun ii _ => ps.length - (intOf ii).toNat)
 case atStart => exact ⟨0, (.slice none 0 0), Nat.zero_le _, rfl, (by rw [List.take_zero, List.flatten_nil]; exact (hS.pick [1, 0, 2]))⟩
 clear hS
 case round =>
  obtain ⟨i, bv, hi, rfl, hS⟩ := hrel
  by_cases D : i < ps.length
  ·
   obtain ⟨l_, G⟩ : ∃ l, ps[i]? = some l := ⟨_, List.getElem?_eq_getElem D⟩
   obtain ⟨T, u_, J, R, N⟩ := S.out i l_ G
   have U : (List.take i ps).flatten.length + l_.length ≤ F.length := by rw [← hF, ← List.length_append, ← J81 G]; exact Q7p _ _
   go_upto_region 3 with fail
   refine RL hS ?_
   clear hS
   refine MW ?_ (v := .bool true)
   refine MZ fun W hS => ?_
   go_upto_region 4 with fail
   refine RL hS ?_
   clear hS
   refine MW ?_ (v := .pointer (some (T.add i))) (hv := fun _ => Z1j (j := i) D rfl (by rw [← J]; rfl) rfl)
   refine MF (v := u_) (fun W hS => X8 rfl rfl (J24 R hS.ext) (by kernel_rfl)) ?_
   refine MV ?_
   refine MZ fun W hS => ?_
   go_upto_region 5 with fail
   refine RL hS ?_
   clear hS
   refine MV ?_
   refine MV ?_
   refine ME (V := fun _ => .tuple #[]) (fun W hS => Q6x [2, 3, 1, 0] [4] ((hS.ent N).entp (Z42 HG.out)) (fun hS => Z8f p6 bv u_ (List.take i ps).flatten l_ (by omega) W hS) (fun _ => ⟨.inr ⟨rfl, rfl⟩, .inr ⟨rfl, rfl⟩, .inl (by simp), .inl (by simp), trivial⟩)) ?_
   intro M
   refine MD 2 ?_
   refine MD 2 ?_
   refine MZ fun W hS => ?_
   go_wp2
   go_roundw
   case rel => exact ⟨i + 1, M, by omega, by go_num, (by rw [J81 G]; exact hS)⟩
   case measure => simp [intOf]; omega
  obtain rfl : i = ps.length := by omega
  rw [List.take_length, hF] at hS
  go_upto_region 3 with fail
  refine RL hS ?_
  clear hS
  refine MW ?_ (v := .bool false)
  refine MZ fun W hS => ?_
  go_upto_region 7 with fail
  refine RL hS ?_
  clear hS
  refine MV ?_
  refine MC (v := .agg (J0 .u8 32 (sm4 F))) (fun W hS => Y2a p6 bv F hlen W (hS.blk (i := 0) rfl) (hS.osl (i := 1) rfl) (J2b HG.out hS.ext)) ?_
  refine MR 2 ?_ 
  refine MZ fun W hS => ?_
  go_wp2
  refine bodyPost_ret (Z6 rfl rfl (hS.blk (i := 2) rfl) (by kernel_rfl) (by rw [J1]; kernel_rfl)) rfl ⟨rfl, hS.ext⟩
end

section
attribute [local irreducible] wpList U0 wpX
def lf (k v : Nat) : Array Value := J0 .u8 32 (Q3 k) ++ J0 .u8 32 (Q3 v)
section
variable {k v : Nat}
theorem J4k : (lf k v).size = 64 := by unfold lf; rw [Array.size_append, J1, J1]
theorem Z30 : ∀ i u, (J0 .u8 32 (Q3 k))[i]? = some u → (lf k v)[0 + i]? = some u := fun i u h => by rw [Nat.zero_add]; exact J3o h
theorem V3d : ∀ i u, (J0 .u8 32 (Q3 v))[i]? = some u → (lf k v)[32 + i]? = some u := fun i u h => J6l (J1 _ _ _) h
end
section
variable {s : Value} {th : Bool} {a x : Nat}
end
section
variable {s : Value} {th : Bool} {a x k y : Nat} {v : Value}
end
abbrev Lf := Nat × Nat
theorem Y4f {A B : Nat} (h : A = B) (w : World) : (Op.equalIn 10000 23 (.agg (J0 .u8 32 (Q3 A))) (.agg (J0 .u8 32 (Q3 B)))).run Tryz.prog w = .ok true w := by
 subst h
 rw [J22 (P := Tryz.prog) w 9998 23 5 32 .u8 (J0 .u8 32 (Q3 A)) (J0 .u8 32 (Q3 A)) (Q3 A) (Q3 A) Tryz.underlying23 Tryz.underlying5 (by kernel_rfl) (fun i hi => J3 _ _ _ _ hi) (fun i hi => J3 _ _ _ _ hi)]
 rw [(J4n _ _ _).2 fun _ _ => rfl]
end

section
set_option maxHeartbeats 1500000
attribute [local irreducible] wpList

end

section
def GR4 (w : World) : Prop := Rd w 1 (J0 .i64 64 kf4) ∧ Rd w 0 (J0 .i64 8 hf4)
theorem Z9p {w W : World} (h : GR4 w) (e : Ext w W) : GR4 W := ⟨h.1.ext e, h.2.ext e⟩
/-! ### a word out of four bytes -/
/-! ### sums with one mask -/
/-! ### the bytes of the words -/
def bo4 (H : Nat → Int) (j : Nat) : UInt8 := u8 (ob4 H j).toNat
theorem Y5q (H : Nat → Int) (j : Nat) : ((bo4 H j).toNat : Int) = ob4 H j := by
  have := Y48 (sr4 (H (j / 4)) (8 * (3 - j % 4)))
  unfold bo4
  rw [J8r]
  unfold ob4
  omega
def wb4 (H : Nat → Int) (n : Nat) : List UInt8 := (List.range n).map (bo4 H)
theorem Q8f (H : Nat → Int) (n : Nat) : (wb4 H n).length = n := by simp [wb4]
def Z2k (l : List UInt8) : List UInt8 := wb4 (Hs4 (J2c l) (nb4 l.length)) 32
def hs4 (l : List UInt8) : Nat := le (Z2k l)
theorem Q0b (l : List UInt8) : (Z2k l).length = 32 := Q8f _ _
theorem Q8g (l : List UInt8) : (J0 .u8 32 (sm4 l)).toList = bs8 (Z2k l) := by
  unfold J0 bs8 Z2k wb4
  rw [List.map_map]
  simp only [List.map_inj_left, Function.comp]
  intro j _
  rw [Y5q]; rfl
theorem Z9q (F : List UInt8) : Z2k F = lb 32 (hs4 F) := (Q8h (Q0b F)).symm
theorem Y5r (F : List UInt8) : J0 .u8 32 (sm4 F) = J0 .u8 32 (Q3 (hs4 F)) := Q6e (by rw [Q8g, Z9q, J6u, J26])
theorem Z4t (F : List UInt8) : hs4 F < 2 ^ 256 := by have := Q6f (Z2k F); rwa [Q0b] at this
end

section
set_option maxHeartbeats 3000000
attribute [local irreducible] wpList U0 wpX
theorem Y2c {w : World} {o : Oper} {a : Act} {x : Operand} {c : UInt8} (ho : o.op = .convert 5 3 x) (hx : a.eval x = .int .u8 (c.toNat : Int)) : (execOp a.eval o).run Tryz.prog w = .ok (.value (.int .i64 (c.toNat : Int))) w := by
 have hc := c.toNat_lt
 have hw : IntKind.wrap .i64 (c.toNat : Int) = (c.toNat : Int) := by rw [IntKind.wrap_i64]; omega
 simp [execOp, ho, hx, convert, run_underlying Tryz.underlying5, run_underlying Tryz.underlying3, Sem.run_bind, Conv.intToInt, hw]
end
end Go.Proofs.YtejkmhgkkibafaaGreatDoor
