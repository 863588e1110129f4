/- The document's sum of 32 bytes. Conditions: the text is no longer than 2^46 bytes; the tables hold their numbers. -/
import Derived.Test.YtejkmhgkkibafaaGreatDoorJ25
import Derived.Test.YtejkmhgkkibafaaGreatDoorBx
import Derived.Test.YtejkmhgkkibafaaGreatDoorJ5
set_option linter.unusedSimpArgs false
set_option linter.unusedVariables false
namespace Go.Proofs.YtejkmhgkkibafaaGreatDoor
set_option maxHeartbeats 3000000
set_option maxRecDepth 100000
open Go.RowKit
attribute [local irreducible] wpList J0k wpX
theorem Q1k {w : World} {o : Oper} {a : Act} {x : Operand} {c : UInt8} (ho : o.op = .convert 5 3 x) (hx : a.eval x = .int .u8 (c.toNat : Int)) : (execOp a.eval o).run Tryz.prog w = .ok (.value (.int .i64 (c.toNat : Int))) w := by
 have hc := c.toNat_lt
 have hw : IntKind.wrap .i64 (c.toNat : Int) = (c.toNat : Int) := by rw [IntKind.wrap_i64]; omega
 simp [execOp, ho, hx, convert, run_underlying Tryz.underlying5, run_underlying Tryz.underlying3, Sem.run_bind, Conv.intToInt, hw]
theorem J3a {P : Program} {w : World} {o : Oper} {a : Act} {x y : Operand} {t t' : TypeId} {p q : Int} (h : 0 ≤ p + q ∧ p + q < 9223372036854775808) (ho : o.op = .binOp .add t x y t') (hx : a.eval x = .int .i64 p) (hy : a.eval y = .int .i64 q) : (execOp a.eval o).run P w = .ok (.value (.int .i64 (p + q))) w := by
 have h2 : IntKind.i64.wrap (p + q) = p + q := IntWalk.i64_in _ (by omega)
 simp only [execOp, ho, hx, hy, eqGuard, binOp, Sem.run_bind]
 simp [go_sem, Sem.run_bind, h2]
theorem shb (P : List UInt8) (J : Nat) {n : Nat} (hn : n ≤ 32) : IntKind.wrap .i64 (bt P J * 2 ^ n) = bt P J * 2 ^ n := by
 have h := Q3m P J
 obtain ⟨b, hb⟩ := Int.eq_ofNat_of_zero_le h.1
 have h3 : 2 ^ n ≤ 2 ^ 32 := Nat.pow_le_pow_right (by decide) hn
 have e2 : ((b : Int) * 2 ^ n) = ((b * 2 ^ n : Nat) : Int) := by rw [Int.natCast_mul, Int.natCast_pow]; rfl
 have l2 : b * 2 ^ n < 2 ^ 63 := by
  calc b * 2 ^ n ≤ b * 2 ^ 32 := Nat.mul_le_mul_left _ h3
   _ < 2 ^ 63 := by omega
 rw [hb, e2]
 exact Z0q _ (Int.natCast_nonneg _) (by exact_mod_cast l2)
theorem Y44 (P : List UInt8) (n i J : Nat) (hJ : n + 4 * i = J) : J4a (bt (P.drop n)) i 4 = bits .or .i64 (bits .or .i64 (bits .or .i64 (bt P J * 2 ^ 24) (bt P (J + 1) * 2 ^ 16)) (bt P (J + 2) * 2 ^ 8)) (bt P (J + 3)) := by
 rw [Z6m (Q3m _ _) (Q3m _ _) (Q3m _ _) (Q3m _ _), Y1o (fun j => Q3m _ j)]
 rw [J7u, J7u, J7u, J7u, ← Nat.add_assoc, ← Nat.add_assoc, ← Nat.add_assoc, hJ]
theorem Y45 {b : Nat → Int} {i : Nat} (h : i < 16) : upd (J9 b i) i (J4a b i 4) = J9 b (i + 1) := by
 show _ = upd (J9 b i) i (if i < 16 then J4a b i 4 else sg4 (J9 b i) i)
 rw [if_pos h]
theorem Y46 (h b : Nat → Int) : J0 .i64 8 (mx4 h (J8 Z6 (J9 b 64) h 64) 8) = J0 .i64 8 (J79 h b) := J07 _ _ _ _ fun j hj => by unfold mx4 J79; rw [if_pos hj]
theorem V41 (x : Int) : sr4 x 0 = x := by unfold sr4; simp

theorem Y47 (l : List UInt8) (hlen : l.length ≤ 70368744177664) (w : World) (hG : GR4 w) :
  Calls Tryz.prog 15 #[str l] w fun e w' => Ret (str (Z0s l)) w w' e := by
 have HG := Lib.hid hG
 clear hG
 have hpl := Q2r l
 have hzc := (J9g l.length).2
 have hnb : nb4 l.length ≤ 1099511628000 := by unfold nb4; omega
 have hS := SH.nil [] w
 go_enter Tryz.func15, Tryz.ntmps15
 go_upto_region 1 with fail
 refine RL hS ?_
 clear hS
 refine MV ?_
 refine MW ?_ (v := .int .i64 (l.length : Int)) (hv := fun _ => Z76 (l := l) rfl rfl)
 refine MV ?_
 refine MZ fun W hS => ?_
 go_upto_region 2 with fail
 refine RL hS ?_
 clear hS
 refine MV ?_
 refine MY (m := l) (by first | omega | (simp only [List.length_append, List.length_cons, List.length_nil, List.length_replicate, J0u]; omega)) ?_
 intro V6z
 refine MO (m := [128]) (n := 1) (z := #[.int .u8 128]) ?_
 intro V70
 refine MAz 1 (xs := l) (ys := [128]) (fun W hS => (hS.osl (i := 0) rfl)) (by first | omega | (simp only [List.length_append, List.length_cons, List.length_nil, List.length_replicate, J0u]; omega)) ?_
 intro V71
 refine MV ?_
 refine MZ fun W hS => ?_
 go_wp2_with fail
 go_loopw [4] (fun sv wr => ∃ (k : Nat) (bv : Value), (k ≤ zc4 l.length) ∧ (bv = sv) ∧ SH [] w wr [.w bv (l ++ [128] ++ List.replicate k 0)])
  (fun sv _ => l.length + 300 - Q2q sv)
 case atStart => exact ⟨0, _, Nat.zero_le _, rfl, (by rw [List.replicate_zero, List.append_nil]; exact (hS.pick [1]))⟩
 clear hS
 case round =>
  obtain ⟨k, bv, hk, rfl, hS⟩ := hrel
  have lb := J78 (hS.ozl (i := 0) rfl)
  by_cases hz : k < zc4 l.length
  ·
   have _f := hz
   have hz2 := Y0h hz
   go_upto_region 3 with fail
   refine RL hS ?_
   clear hS
   refine MV ?_
   refine MF (v := .int .i64 ((l ++ [128] ++ List.replicate k 0).length : Int)) (fun W hS => J12 (hS.ozl (i := 0) rfl) rfl rfl) ?_
   refine MW ?_ (v := .int .i64 (((l.length + 1 + k) % 64 : Nat) : Int)) (hv := by intro W; go_simp; (try simp only [List.length_append, List.length_cons, List.length_nil, List.length_replicate]); rw [Int.tmod_eq_emod_of_nonneg (by omega)]; omega)
   refine MW ?_ (v := .bool true) (hv := by intro W; go_simp; omega)
   refine MZ fun W hS => ?_
   go_upto_region 4 with fail
   refine RL hS ?_
   clear hS
   refine MV ?_
   refine MO (m := [0]) (n := 1) (z := #[.int .u8 0]) ?_
   intro Y6h
   refine MAz 1 (xs := (l ++ [128] ++ List.replicate k 0)) (ys := [0]) (fun W hS => (hS.osl (i := 0) rfl)) (by first | omega | (simp only [List.length_append, List.length_cons, List.length_nil, List.length_replicate, J0u]; omega)) ?_
   intro V72
   refine MV ?_
   refine MZ fun W hS => ?_
   have la := J78 (hS.ozl (i := 1) rfl)
   simp only [List.length_append, List.length_cons, List.length_nil, List.length_replicate] at la lb
   go_wp2
   go_roundw
   case rel => exact ⟨k + 1, _, by omega, rfl, (by have h_ := (hS.pick [1]); rw [List.append_assoc _ (List.replicate k 0), ← List.replicate_succ'] at h_; exact h_)⟩
   case measure => simp only [la, lb]; omega
  have _f := hz
  obtain rfl : k = zc4 l.length := by omega
  have hz2 := (J9g l.length).1
  go_upto_region 3 with fail
  refine RL hS ?_
  clear hS
  refine MV ?_
  refine MF (v := .int .i64 ((l ++ [128] ++ List.replicate (zc4 l.length) 0).length : Int)) (fun W hS => J12 (hS.ozl (i := 0) rfl) rfl rfl) ?_
  refine MW ?_ (v := .int .i64 (((l.length + 1 + zc4 l.length) % 64 : Nat) : Int)) (hv := by intro W; go_simp; (try simp only [List.length_append, List.length_cons, List.length_nil, List.length_replicate]); rw [Int.tmod_eq_emod_of_nonneg (by omega)]; omega)
  refine MW ?_ (v := .bool false) (hv := by intro W; first | (go_simp; done) | (go_simp; omega))
  refine MZ fun W hS => ?_
  go_wp2_with fail
  refine wp_loop_rounds 9 ?_
  rw [rounds_succ]
  go_upto_region 8 with fail
  refine RL hS ?_
  clear hS
  refine MV ?_
  refine MV ?_
  refine MW ?_ (v := .int .i64 (((8 * l.length : Nat) : Int))) (hv := by intro W; go_simp; (try simp only [IntKind.wrap_u64, IntKind.wrap_i64]); (try omega))
  refine MW ?_ (v := .int .i64 56)
  refine MW ?_ (v := .int .i64 (((8 * l.length / 72057594037927936 : Nat) : Int))) (hv := by intro W; rw [← J8g (8 * l.length) 56 72057594037927936 (by decide)]; exact J0j (n := 56) (by decide) rfl rfl rfl)
  refine MW ?_ (v := .int .u8 ((u8 ((8 * l.length) / 72057594037927936)).toNat : Int)) (hv := by intro W; rw [← J8f (8 * l.length) 72057594037927936]; exact J19 rfl rfl)
  refine MO (m := [u8 ((8 * l.length) / 72057594037927936)]) (n := 1) (z := #[.int .u8 ((u8 ((8 * l.length) / 72057594037927936)).toNat : Int)]) ?_
  intro V73
  refine MAz 1 (xs := (l ++ [128] ++ List.replicate (zc4 l.length) 0)) (ys := [u8 ((8 * l.length) / 72057594037927936)]) (fun W hS => (hS.osl (i := 0) rfl)) (by first | omega | (simp only [List.length_append, List.length_cons, List.length_nil, List.length_replicate, J0u]; omega)) ?_
  intro V74
  refine MV ?_
  refine MZ fun W hS => ?_
  go_wp2_with fail
  rw [rounds_succ]
  go_upto_region 8 with fail
  refine RL hS ?_
  clear hS
  refine MV ?_
  refine MV ?_
  refine MW ?_ (v := .int .i64 (((8 * l.length : Nat) : Int))) (hv := by intro W; go_simp; (try simp only [IntKind.wrap_u64, IntKind.wrap_i64]); (try omega))
  refine MW ?_ (v := .int .i64 48)
  refine MW ?_ (v := .int .i64 (((8 * l.length / 281474976710656 : Nat) : Int))) (hv := by intro W; rw [← J8g (8 * l.length) 48 281474976710656 (by decide)]; exact J0j (n := 48) (by decide) rfl rfl rfl)
  refine MW ?_ (v := .int .u8 ((u8 ((8 * l.length) / 281474976710656)).toNat : Int)) (hv := by intro W; rw [← J8f (8 * l.length) 281474976710656]; exact J19 rfl rfl)
  refine MD 0 ?_
  refine MO (m := [u8 ((8 * l.length) / 281474976710656)]) (n := 1) (z := #[.int .u8 ((u8 ((8 * l.length) / 281474976710656)).toNat : Int)]) ?_
  intro V3y
  refine MAz 1 (xs := ((l ++ [128] ++ List.replicate (zc4 l.length) 0) ++ [u8 ((8 * l.length) / 72057594037927936)])) (ys := [u8 ((8 * l.length) / 281474976710656)]) (fun W hS => (hS.osl (i := 0) rfl)) (by first | omega | (simp only [List.length_append, List.length_cons, List.length_nil, List.length_replicate, J0u]; omega)) ?_
  intro V3z
  refine MV ?_
  refine MZ fun W hS => ?_
  go_wp2_with fail
  rw [rounds_succ]
  go_upto_region 8 with fail
  refine RL hS ?_
  clear hS
  refine MV ?_
  refine MV ?_
  refine MW ?_ (v := .int .i64 (((8 * l.length : Nat) : Int))) (hv := by intro W; go_simp; (try simp only [IntKind.wrap_u64, IntKind.wrap_i64]); (try omega))
  refine MW ?_ (v := .int .i64 40)
  refine MW ?_ (v := .int .i64 (((8 * l.length / 1099511627776 : Nat) : Int))) (hv := by intro W; rw [← J8g (8 * l.length) 40 1099511627776 (by decide)]; exact J0j (n := 40) (by decide) rfl rfl rfl)
  refine MW ?_ (v := .int .u8 ((u8 ((8 * l.length) / 1099511627776)).toNat : Int)) (hv := by intro W; rw [← J8f (8 * l.length) 1099511627776]; exact J19 rfl rfl)
  refine MD 0 ?_
  refine MO (m := [u8 ((8 * l.length) / 1099511627776)]) (n := 1) (z := #[.int .u8 ((u8 ((8 * l.length) / 1099511627776)).toNat : Int)]) ?_
  intro Y9u
  refine MAz 1 (xs := (((l ++ [128] ++ List.replicate (zc4 l.length) 0) ++ [u8 ((8 * l.length) / 72057594037927936)]) ++ [u8 ((8 * l.length) / 281474976710656)])) (ys := [u8 ((8 * l.length) / 1099511627776)]) (fun W hS => (hS.osl (i := 0) rfl)) (by first | omega | (simp only [List.length_append, List.length_cons, List.length_nil, List.length_replicate, J0u]; omega)) ?_
  intro Y9v
  refine MV ?_
  refine MZ fun W hS => ?_
  go_wp2_with fail
  rw [rounds_succ]
  go_upto_region 8 with fail
  refine RL hS ?_
  clear hS
  refine MV ?_
  refine MV ?_
  refine MW ?_ (v := .int .i64 (((8 * l.length : Nat) : Int))) (hv := by intro W; go_simp; (try simp only [IntKind.wrap_u64, IntKind.wrap_i64]); (try omega))
  refine MW ?_ (v := .int .i64 32)
  refine MW ?_ (v := .int .i64 (((8 * l.length / 4294967296 : Nat) : Int))) (hv := by intro W; rw [← J8g (8 * l.length) 32 4294967296 (by decide)]; exact J0j (n := 32) (by decide) rfl rfl rfl)
  refine MW ?_ (v := .int .u8 ((u8 ((8 * l.length) / 4294967296)).toNat : Int)) (hv := by intro W; rw [← J8f (8 * l.length) 4294967296]; exact J19 rfl rfl)
  refine MD 0 ?_
  refine MO (m := [u8 ((8 * l.length) / 4294967296)]) (n := 1) (z := #[.int .u8 ((u8 ((8 * l.length) / 4294967296)).toNat : Int)]) ?_
  intro Y9w
  refine MAz 1 (xs := ((((l ++ [128] ++ List.replicate (zc4 l.length) 0) ++ [u8 ((8 * l.length) / 72057594037927936)]) ++ [u8 ((8 * l.length) / 281474976710656)]) ++ [u8 ((8 * l.length) / 1099511627776)])) (ys := [u8 ((8 * l.length) / 4294967296)]) (fun W hS => (hS.osl (i := 0) rfl)) (by first | omega | (simp only [List.length_append, List.length_cons, List.length_nil, List.length_replicate, J0u]; omega)) ?_
  intro Y9x
  refine MV ?_
  refine MZ fun W hS => ?_
  go_wp2_with fail
  rw [rounds_succ]
  go_upto_region 8 with fail
  refine RL hS ?_
  clear hS
  refine MV ?_
  refine MV ?_
  refine MW ?_ (v := .int .i64 (((8 * l.length : Nat) : Int))) (hv := by intro W; go_simp; (try simp only [IntKind.wrap_u64, IntKind.wrap_i64]); (try omega))
  refine MW ?_ (v := .int .i64 24)
  refine MW ?_ (v := .int .i64 (((8 * l.length / 16777216 : Nat) : Int))) (hv := by intro W; rw [← J8g (8 * l.length) 24 16777216 (by decide)]; exact J0j (n := 24) (by decide) rfl rfl rfl)
  refine MW ?_ (v := .int .u8 ((u8 ((8 * l.length) / 16777216)).toNat : Int)) (hv := by intro W; rw [← J8f (8 * l.length) 16777216]; exact J19 rfl rfl)
  refine MD 0 ?_
  refine MO (m := [u8 ((8 * l.length) / 16777216)]) (n := 1) (z := #[.int .u8 ((u8 ((8 * l.length) / 16777216)).toNat : Int)]) ?_
  intro Y9y
  refine MAz 1 (xs := (((((l ++ [128] ++ List.replicate (zc4 l.length) 0) ++ [u8 ((8 * l.length) / 72057594037927936)]) ++ [u8 ((8 * l.length) / 281474976710656)]) ++ [u8 ((8 * l.length) / 1099511627776)]) ++ [u8 ((8 * l.length) / 4294967296)])) (ys := [u8 ((8 * l.length) / 16777216)]) (fun W hS => (hS.osl (i := 0) rfl)) (by first | omega | (simp only [List.length_append, List.length_cons, List.length_nil, List.length_replicate, J0u]; omega)) ?_
  intro Y9z
  refine MV ?_
  refine MZ fun W hS => ?_
  go_wp2_with fail
  rw [rounds_succ]
  go_upto_region 8 with fail
  refine RL hS ?_
  clear hS
  refine MV ?_
  refine MV ?_
  refine MW ?_ (v := .int .i64 (((8 * l.length : Nat) : Int))) (hv := by intro W; go_simp; (try simp only [IntKind.wrap_u64, IntKind.wrap_i64]); (try omega))
  refine MW ?_ (v := .int .i64 16)
  refine MW ?_ (v := .int .i64 (((8 * l.length / 65536 : Nat) : Int))) (hv := by intro W; rw [← J8g (8 * l.length) 16 65536 (by decide)]; exact J0j (n := 16) (by decide) rfl rfl rfl)
  refine MW ?_ (v := .int .u8 ((u8 ((8 * l.length) / 65536)).toNat : Int)) (hv := by intro W; rw [← J8f (8 * l.length) 65536]; exact J19 rfl rfl)
  refine MD 0 ?_
  refine MO (m := [u8 ((8 * l.length) / 65536)]) (n := 1) (z := #[.int .u8 ((u8 ((8 * l.length) / 65536)).toNat : Int)]) ?_
  intro V00
  refine MAz 1 (xs := ((((((l ++ [128] ++ List.replicate (zc4 l.length) 0) ++ [u8 ((8 * l.length) / 72057594037927936)]) ++ [u8 ((8 * l.length) / 281474976710656)]) ++ [u8 ((8 * l.length) / 1099511627776)]) ++ [u8 ((8 * l.length) / 4294967296)]) ++ [u8 ((8 * l.length) / 16777216)])) (ys := [u8 ((8 * l.length) / 65536)]) (fun W hS => (hS.osl (i := 0) rfl)) (by first | omega | (simp only [List.length_append, List.length_cons, List.length_nil, List.length_replicate, J0u]; omega)) ?_
  intro V01
  refine MV ?_
  refine MZ fun W hS => ?_
  go_wp2_with fail
  rw [rounds_succ]
  go_upto_region 8 with fail
  refine RL hS ?_
  clear hS
  refine MV ?_
  refine MV ?_
  refine MW ?_ (v := .int .i64 (((8 * l.length : Nat) : Int))) (hv := by intro W; go_simp; (try simp only [IntKind.wrap_u64, IntKind.wrap_i64]); (try omega))
  refine MW ?_ (v := .int .i64 8)
  refine MW ?_ (v := .int .i64 (((8 * l.length / 256 : Nat) : Int))) (hv := by intro W; rw [← J8g (8 * l.length) 8 256 (by decide)]; exact J0j (n := 8) (by decide) rfl rfl rfl)
  refine MW ?_ (v := .int .u8 ((u8 ((8 * l.length) / 256)).toNat : Int)) (hv := by intro W; rw [← J8f (8 * l.length) 256]; exact J19 rfl rfl)
  refine MD 0 ?_
  refine MO (m := [u8 ((8 * l.length) / 256)]) (n := 1) (z := #[.int .u8 ((u8 ((8 * l.length) / 256)).toNat : Int)]) ?_
  intro V02
  refine MAz 1 (xs := (((((((l ++ [128] ++ List.replicate (zc4 l.length) 0) ++ [u8 ((8 * l.length) / 72057594037927936)]) ++ [u8 ((8 * l.length) / 281474976710656)]) ++ [u8 ((8 * l.length) / 1099511627776)]) ++ [u8 ((8 * l.length) / 4294967296)]) ++ [u8 ((8 * l.length) / 16777216)]) ++ [u8 ((8 * l.length) / 65536)])) (ys := [u8 ((8 * l.length) / 256)]) (fun W hS => (hS.osl (i := 0) rfl)) (by first | omega | (simp only [List.length_append, List.length_cons, List.length_nil, List.length_replicate, J0u]; omega)) ?_
  intro V03
  refine MV ?_
  refine MZ fun W hS => ?_
  go_wp2_with fail
  rw [rounds_succ]
  go_upto_region 8 with fail
  refine RL hS ?_
  clear hS
  refine MV ?_
  refine MV ?_
  refine MW ?_ (v := .int .i64 (((8 * l.length : Nat) : Int))) (hv := by intro W; go_simp; (try simp only [IntKind.wrap_u64, IntKind.wrap_i64]); (try omega))
  refine MW ?_ (v := .int .i64 0)
  refine MW ?_ (v := .int .i64 (((8 * l.length : Nat) : Int))) (hv := by intro W; exact Z1p rfl rfl rfl)
  refine MW ?_ (v := .int .u8 ((u8 (8 * l.length)).toNat : Int)) (hv := by intro W; rw [← Y3v (8 * l.length)]; exact J19 rfl rfl)
  refine MD 0 ?_
  refine MO (m := [u8 (8 * l.length)]) (n := 1) (z := #[.int .u8 ((u8 (8 * l.length)).toNat : Int)]) ?_
  intro V04
  refine MAz 1 (xs := ((((((((l ++ [128] ++ List.replicate (zc4 l.length) 0) ++ [u8 ((8 * l.length) / 72057594037927936)]) ++ [u8 ((8 * l.length) / 281474976710656)]) ++ [u8 ((8 * l.length) / 1099511627776)]) ++ [u8 ((8 * l.length) / 4294967296)]) ++ [u8 ((8 * l.length) / 16777216)]) ++ [u8 ((8 * l.length) / 65536)]) ++ [u8 ((8 * l.length) / 256)])) (ys := [u8 (8 * l.length)]) (fun W hS => (hS.osl (i := 0) rfl)) (by first | omega | (simp only [List.length_append, List.length_cons, List.length_nil, List.length_replicate, J0u]; omega)) ?_
  intro Q4x
  refine MV ?_
  refine MZ fun W hS => ?_
  go_wp2_with fail
  rw [rounds_succ]
  go_upto_region 9 with fail
  refine RL hS ?_
  clear hS
  refine MF (v := .agg (J0 .i64 8 hf4)) (fun W hS => Z4w rfl rfl ((J84 HG.out hS.ext).2) (by kernel_rfl) (by rw [J2]; kernel_rfl)) ?_
  refine MN (z := J0 .i64 8 (fun _ => 0)) (t := 99) ?_
  intro J9h
  refine MR 0 ?_ 
  refine MZ fun W hS => ?_
  rw [Q8b] at hS
  have hS := hS.readw (i := 2) rfl (hS.ozl (i := 2) rfl) J2r
  go_wp2_with fail
  go_loopw [7] (fun ii wr => ∃ (j : Nat), (j ≤ nb4 l.length) ∧ (ii = .int .i64 ((64 * j : Nat) : Int)) ∧ SH [] w wr [.b J9h (J0 .i64 8 (Y3 (J4 l) j)) 99, .s Q4x (J4 l)])
   (fun ii _ => 64 * nb4 l.length - (intOf ii).toNat)
  case atStart => exact ⟨0, Nat.zero_le _, rfl, (hS.pick [0, 2])⟩
  clear hS
  case round =>
   obtain ⟨j, hj, rfl, hS⟩ := hrel
   have hh := V1l (J4 l) j
   have hb := V1j (List.drop (64 * j) (J4 l))
   by_cases hjl : j < nb4 l.length
   ·
    have _f := hjl
    go_upto_region 11 with fail
    refine RL hS ?_
    clear hS
    refine MV ?_
    refine MV ?_
    refine MF (v := .int .i64 ((J4 l).length : Int)) (fun W hS => J12 (hS.sl (i := 1) rfl) rfl rfl) ?_
    refine MW ?_ (v := .bool true) (hv := by intro W; first | (go_simp; done) | (go_simp; (try simp only [hpl]); omega))
    refine MZ fun W hS => ?_
    go_upto_region 13 with fail
    refine RL hS ?_
    clear hS
    refine MN (z := J0 .i64 64 (fun _ => 0)) (t := 100) ?_
    intro J5g
    refine MZ fun W hS => ?_
    go_wp2_with fail
    go_loopw [9] (fun ii wr => ∃ (i : Nat), (i ≤ 64) ∧ (ii = .int .i64 (i : Int)) ∧ SH [] w wr [.b J5g (J0 .i64 64 (J9 (bt (List.drop (64 * j) (J4 l))) i)) 100, .b J9h (J0 .i64 8 (Y3 (J4 l) j)) 99, .s Q4x (J4 l)])
     (fun ii _ => 64 - (intOf ii).toNat)
    case atStart => exact ⟨0, Nat.zero_le _, rfl, hS⟩
    clear hS
    case round =>
     obtain ⟨i, hi, rfl, hS⟩ := hrel
     have hs_ := Q6u hb i
     by_cases h64 : i < 64
     ·
      have _f := h64
      go_upto_region 15 with fail
      refine RL hS ?_
      clear hS
      refine MV ?_
      refine MW ?_ (v := .bool true)
      refine MZ fun W hS => ?_
      by_cases h16 : i < 16
      ·
       have _f := h16
       obtain ⟨J, hJe⟩ : ∃ J, 64 * j + 4 * i = J := ⟨_, rfl⟩
       have hJ : J + 3 < (J4 l).length := by rw [hpl]; omega
       have hwd := Lib.hid (Y44 (J4 l) (64 * j) i J hJe)
       go_upto_region 17 with fail
       refine RL hS ?_
       clear hS
       refine MV ?_
       refine MW ?_ (v := .bool true)
       refine MZ fun W hS => ?_
       go_upto_region 18 with fail
       refine RL hS ?_
       clear hS
       refine MV ?_
       refine MV ?_
       refine MW ?_ (v := .int .i64 (((4 * i : Nat) : Int))) (hv := by intro W; go_simp; (try simp only [IntKind.wrap_u64, IntKind.wrap_i64]); (try omega))
       refine MW ?_ (v := .int .i64 (((J : Nat) : Int))) (hv := by intro W; go_simp; (try simp only [IntKind.wrap_u64, IntKind.wrap_i64]); (try omega))
       refine MV ?_
       refine MZ fun W hS => ?_
       go_upto_region 19 with fail
       refine RX 31 hS ?_
       clear hS
       refine MV ?_
       refine MV ?_
       refine MV ?_
       refine MJ 2 J (b := ((J4 l).getD (J) 0)) (J2t (by omega)) ?_
       intro ad65_24 c_ hv65_24
       refine MF (v := .int .u8 (((J4 l).getD (J) 0).toNat : Int)) (fun W hS => V2 rfl rfl (Q3x (by rw [← hv65_24.out]; exact (hS.sl (i := 2) rfl)) (J2t (by omega))) (by kernel_rfl)) ?_
       refine MW ?_ (v := .int .i64 (((J4 l).getD (J) 0).toNat : Int)) (hv := by intro W; exact Q1k rfl rfl)
       refine MW ?_ (v := .int .i64 ((bt (J4 l) (J)) * 2 ^ 24)) (hv := by intro W; rw [← shb (J4 l) (J) (n := 24) (by decide)]; exact Q00 (n := 24) (by decide) rfl rfl rfl)
       refine MV ?_
       refine MV ?_
       refine MW ?_ (v := .int .i64 (((J + 1 : Nat) : Int))) (hv := by intro W; go_simp; (try simp only [IntKind.wrap_u64, IntKind.wrap_i64]); (try omega))
       refine MJ 2 (J + 1) (b := ((J4 l).getD (J + 1) 0)) (J2t (by omega)) ?_
       intro ad72_25 c_ hv72_25
       refine MF (v := .int .u8 (((J4 l).getD (J + 1) 0).toNat : Int)) (fun W hS => V2 rfl rfl (Q3x (by rw [← hv72_25.out]; exact (hS.sl (i := 2) rfl)) (J2t (by omega))) (by kernel_rfl)) ?_
       refine MW ?_ (v := .int .i64 (((J4 l).getD (J + 1) 0).toNat : Int)) (hv := by intro W; exact Q1k rfl rfl)
       refine MW ?_ (v := .int .i64 ((bt (J4 l) (J + 1)) * 2 ^ 16)) (hv := by intro W; rw [← shb (J4 l) (J + 1) (n := 16) (by decide)]; exact Q00 (n := 16) (by decide) rfl rfl rfl)
       refine MW ?_ (v := .int .i64 (bits .or .i64 ((bt (J4 l) (J)) * 2 ^ 24) ((bt (J4 l) (J + 1)) * 2 ^ 16))) (hv := by intro W; exact Q1i rfl rfl rfl)
       refine MV ?_
       refine MV ?_
       refine MW ?_ (v := .int .i64 (((J + 2 : Nat) : Int))) (hv := by intro W; go_simp; (try simp only [IntKind.wrap_u64, IntKind.wrap_i64]); (try omega))
       refine MJ 2 (J + 2) (b := ((J4 l).getD (J + 2) 0)) (J2t (by omega)) ?_
       intro ad80_26 c_ hv80_26
       refine MF (v := .int .u8 (((J4 l).getD (J + 2) 0).toNat : Int)) (fun W hS => V2 rfl rfl (Q3x (by rw [← hv80_26.out]; exact (hS.sl (i := 2) rfl)) (J2t (by omega))) (by kernel_rfl)) ?_
       refine MW ?_ (v := .int .i64 (((J4 l).getD (J + 2) 0).toNat : Int)) (hv := by intro W; exact Q1k rfl rfl)
       refine MW ?_ (v := .int .i64 ((bt (J4 l) (J + 2)) * 2 ^ 8)) (hv := by intro W; rw [← shb (J4 l) (J + 2) (n := 8) (by decide)]; exact Q00 (n := 8) (by decide) rfl rfl rfl)
       refine MW ?_ (v := .int .i64 (bits .or .i64 (bits .or .i64 ((bt (J4 l) (J)) * 2 ^ 24) ((bt (J4 l) (J + 1)) * 2 ^ 16)) ((bt (J4 l) (J + 2)) * 2 ^ 8))) (hv := by intro W; exact Q1i rfl rfl rfl)
       refine MV ?_
       refine MV ?_
       refine MW ?_ (v := .int .i64 (((J + 3 : Nat) : Int))) (hv := by intro W; go_simp; (try simp only [IntKind.wrap_u64, IntKind.wrap_i64]); (try omega))
       refine MJ 2 (J + 3) (b := ((J4 l).getD (J + 3) 0)) (J2t (by omega)) ?_
       intro ad88_27 c_ hv88_27
       refine MF (v := .int .u8 (((J4 l).getD (J + 3) 0).toNat : Int)) (fun W hS => V2 rfl rfl (Q3x (by rw [← hv88_27.out]; exact (hS.sl (i := 2) rfl)) (J2t (by omega))) (by kernel_rfl)) ?_
       refine MW ?_ (v := .int .i64 (((J4 l).getD (J + 3) 0).toNat : Int)) (hv := by intro W; exact Q1k rfl rfl)
       refine MW ?_ (v := .int .i64 (J4a (bt (List.drop (64 * j) (J4 l))) i 4)) (hv := by intro W; rw [hwd.out]; exact Q1i rfl rfl rfl)
       refine MW ?_ (v := .pointer (some ⟨J5g, 0 + i, none⟩)) (hv := fun _ => J5 (m := 64) (by decide) (by omega) Tryz.underlying100 (by kernel_rfl) rfl rfl rfl)
       refine MZt ?_
       refine MP 0 (v := .int .i64 (J4a (bt (List.drop (64 * j) (J4 l))) i 4)) (cs' := J0 .i64 64 (upd (J9 (bt (List.drop (64 * j) (J4 l))) i) i (J4a (bt (List.drop (64 * j) (J4 l))) i 4))) ?_ (hs := by rw [J2, Nat.zero_add]; omega) (hc := by rw [Nat.zero_add]; exact K0 _ _ _ _ _)
       refine MZn fun W hS => ?_
       rw [Y45 h16] at hS
       go_wp2
       go_roundw
       case rel => exact ⟨i + 1, by omega, by go_num, hS⟩
       case measure => simp [intOf]; omega
      have _f := h16
      replace h16 : 16 ≤ i := by omega
      have p1 := hs_ (i - 16)
      have p2 := Q8t (hs_ (i - 15)) 7 18 3
      have p3 := hs_ (i - 7)
      have p4 := Q8t (hs_ (i - 2)) 17 19 10
      unfold W4 at p1 p2 p3 p4
      go_upto_region 17 with fail
      refine RL hS ?_
      clear hS
      refine MV ?_
      refine MW ?_ (v := .bool false)
      refine MZ fun W hS => ?_
      go_upto_region 20 with fail
      refine RS hS ?_
      clear hS
      refine MV ?_
      refine MW ?_ (v := .int .i64 (((i - 15 : Nat) : Int))) (hv := by intro W; go_simp; (try simp only [IntKind.wrap_u64, IntKind.wrap_i64]); (try omega))
      refine MW ?_ (v := .pointer (some ⟨J5g, 0 + (i - 15), none⟩)) (hv := fun _ => J5 (m := 64) (by decide) (by omega) Tryz.underlying100 (by kernel_rfl) rfl rfl rfl)
      refine MG 0 ?_ (j := 0 + (i - 15)) (v := .int .i64 ((J9 (bt (List.drop (64 * j) (J4 l))) i) (i - 15))) (hj := by rw [Nat.zero_add]; exact J6 _ _ _ _ (by omega))
      refine MV ?_
      refine MW ?_ (v := .int .i64 (((i - 2 : Nat) : Int))) (hv := by intro W; go_simp; (try simp only [IntKind.wrap_u64, IntKind.wrap_i64]); (try omega))
      refine MW ?_ (v := .pointer (some ⟨J5g, 0 + (i - 2), none⟩)) (hv := fun _ => J5 (m := 64) (by decide) (by omega) Tryz.underlying100 (by kernel_rfl) rfl rfl rfl)
      refine MG 0 ?_ (j := 0 + (i - 2)) (v := .int .i64 ((J9 (bt (List.drop (64 * j) (J4 l))) i) (i - 2))) (hj := by rw [Nat.zero_add]; exact J6 _ _ _ _ (by omega))
      refine MV ?_
      refine MV ?_
      refine MZx fun W hS => ?_
      go_upto_region 21 with fail
      refine RX 30 hS ?_
      clear hS
      refine MV ?_
      refine MV ?_
      refine MW ?_ (v := .int .i64 (((i - 16 : Nat) : Int))) (hv := by intro W; go_simp; (try simp only [IntKind.wrap_u64, IntKind.wrap_i64]); (try omega))
      refine MW ?_ (v := .pointer (some ⟨J5g, 0 + (i - 16), none⟩)) (hv := fun _ => J5 (m := 64) (by decide) (by omega) Tryz.underlying100 (by kernel_rfl) rfl rfl rfl)
      refine MG 0 ?_ (j := 0 + (i - 16)) (v := .int .i64 ((J9 (bt (List.drop (64 * j) (J4 l))) i) (i - 16))) (hj := by rw [Nat.zero_add]; exact J6 _ _ _ _ (by omega))
      refine MV ?_
      refine MC (v := .int .i64 (rt4 ((J9 (bt (List.drop (64 * j) (J4 l))) i) (i - 15)) 7)) (fun W hS => J3u ((J9 (bt (List.drop (64 * j) (J4 l))) i) (i - 15)) (hs_ (i - 15)) 7 (by decide) (by decide) W) ?_
      refine MV ?_
      refine MC (v := .int .i64 (rt4 ((J9 (bt (List.drop (64 * j) (J4 l))) i) (i - 15)) 18)) (fun W hS => J3u ((J9 (bt (List.drop (64 * j) (J4 l))) i) (i - 15)) (hs_ (i - 15)) 18 (by decide) (by decide) W) ?_
      refine MW ?_ (v := .int .i64 (xo4 (rt4 ((J9 (bt (List.drop (64 * j) (J4 l))) i) (i - 15)) 7) (rt4 ((J9 (bt (List.drop (64 * j) (J4 l))) i) (i - 15)) 18))) (hv := by intro W; rw [show (xo4 (rt4 ((J9 (bt (List.drop (64 * j) (J4 l))) i) (i - 15)) 7) (rt4 ((J9 (bt (List.drop (64 * j) (J4 l))) i) (i - 15)) 18)) = bits .xor .i64 (rt4 ((J9 (bt (List.drop (64 * j) (J4 l))) i) (i - 15)) 7) (rt4 ((J9 (bt (List.drop (64 * j) (J4 l))) i) (i - 15)) 18) from (J5k (J2z (hs_ (i - 15))) (J2z (hs_ (i - 15)))).symm]; exact J1x rfl rfl rfl)
      refine MV ?_
      refine MW ?_ (v := .int .i64 (sr4 ((J9 (bt (List.drop (64 * j) (J4 l))) i) (i - 15)) 3)) (hv := by intro W; exact J0j (n := 3) (by decide) rfl rfl rfl)
      refine MW ?_ (v := .int .i64 (J1f (J9 (bt (List.drop (64 * j) (J4 l))) i (i - 15)) 7 18 3)) (hv := by intro W; rw [show (J1f (J9 (bt (List.drop (64 * j) (J4 l))) i (i - 15)) 7 18 3) = bits .xor .i64 (xo4 (rt4 ((J9 (bt (List.drop (64 * j) (J4 l))) i) (i - 15)) 7) (rt4 ((J9 (bt (List.drop (64 * j) (J4 l))) i) (i - 15)) 18)) (sr4 ((J9 (bt (List.drop (64 * j) (J4 l))) i) (i - 15)) 3) from (J5k (J5r (J2z (hs_ (i - 15))) (J2z (hs_ (i - 15)))) (Z29 (hs_ (i - 15)))).symm]; exact J1x rfl rfl rfl)
      refine MW ?_ (v := .int .i64 (((J9 (bt (List.drop (64 * j) (J4 l))) i) (i - 16)) + (J1f (J9 (bt (List.drop (64 * j) (J4 l))) i (i - 15)) 7 18 3))) (hv := by intro W; exact J3a (by omega) rfl rfl rfl)
      refine MV ?_
      refine MW ?_ (v := .int .i64 (((i - 7 : Nat) : Int))) (hv := by intro W; go_simp; (try simp only [IntKind.wrap_u64, IntKind.wrap_i64]); (try omega))
      refine MW ?_ (v := .pointer (some ⟨J5g, 0 + (i - 7), none⟩)) (hv := fun _ => J5 (m := 64) (by decide) (by omega) Tryz.underlying100 (by kernel_rfl) rfl rfl rfl)
      refine MG 0 ?_ (j := 0 + (i - 7)) (v := .int .i64 ((J9 (bt (List.drop (64 * j) (J4 l))) i) (i - 7))) (hj := by rw [Nat.zero_add]; exact J6 _ _ _ _ (by omega))
      refine MW ?_ (v := .int .i64 ((((J9 (bt (List.drop (64 * j) (J4 l))) i) (i - 16)) + (J1f (J9 (bt (List.drop (64 * j) (J4 l))) i (i - 15)) 7 18 3)) + ((J9 (bt (List.drop (64 * j) (J4 l))) i) (i - 7)))) (hv := by intro W; exact J3a (by omega) rfl rfl rfl)
      refine MV ?_
      refine MC (v := .int .i64 (rt4 ((J9 (bt (List.drop (64 * j) (J4 l))) i) (i - 2)) 17)) (fun W hS => J3u ((J9 (bt (List.drop (64 * j) (J4 l))) i) (i - 2)) (hs_ (i - 2)) 17 (by decide) (by decide) W) ?_
      refine MV ?_
      refine MC (v := .int .i64 (rt4 ((J9 (bt (List.drop (64 * j) (J4 l))) i) (i - 2)) 19)) (fun W hS => J3u ((J9 (bt (List.drop (64 * j) (J4 l))) i) (i - 2)) (hs_ (i - 2)) 19 (by decide) (by decide) W) ?_
      refine MW ?_ (v := .int .i64 (xo4 (rt4 ((J9 (bt (List.drop (64 * j) (J4 l))) i) (i - 2)) 17) (rt4 ((J9 (bt (List.drop (64 * j) (J4 l))) i) (i - 2)) 19))) (hv := by intro W; rw [show (xo4 (rt4 ((J9 (bt (List.drop (64 * j) (J4 l))) i) (i - 2)) 17) (rt4 ((J9 (bt (List.drop (64 * j) (J4 l))) i) (i - 2)) 19)) = bits .xor .i64 (rt4 ((J9 (bt (List.drop (64 * j) (J4 l))) i) (i - 2)) 17) (rt4 ((J9 (bt (List.drop (64 * j) (J4 l))) i) (i - 2)) 19) from (J5k (J2z (hs_ (i - 2))) (J2z (hs_ (i - 2)))).symm]; exact J1x rfl rfl rfl)
      refine MV ?_
      refine MW ?_ (v := .int .i64 (sr4 ((J9 (bt (List.drop (64 * j) (J4 l))) i) (i - 2)) 10)) (hv := by intro W; exact J0j (n := 10) (by decide) rfl rfl rfl)
      refine MW ?_ (v := .int .i64 (J1f (J9 (bt (List.drop (64 * j) (J4 l))) i (i - 2)) 17 19 10)) (hv := by intro W; rw [show (J1f (J9 (bt (List.drop (64 * j) (J4 l))) i (i - 2)) 17 19 10) = bits .xor .i64 (xo4 (rt4 ((J9 (bt (List.drop (64 * j) (J4 l))) i) (i - 2)) 17) (rt4 ((J9 (bt (List.drop (64 * j) (J4 l))) i) (i - 2)) 19)) (sr4 ((J9 (bt (List.drop (64 * j) (J4 l))) i) (i - 2)) 10) from (J5k (J5r (J2z (hs_ (i - 2))) (J2z (hs_ (i - 2)))) (Z29 (hs_ (i - 2)))).symm]; exact J1x rfl rfl rfl)
      refine MW ?_ (v := .int .i64 (((((J9 (bt (List.drop (64 * j) (J4 l))) i) (i - 16)) + (J1f (J9 (bt (List.drop (64 * j) (J4 l))) i (i - 15)) 7 18 3)) + ((J9 (bt (List.drop (64 * j) (J4 l))) i) (i - 7))) + (J1f (J9 (bt (List.drop (64 * j) (J4 l))) i (i - 2)) 17 19 10))) (hv := by intro W; exact J3a (by omega) rfl rfl rfl)
      refine MW ?_ (v := .int .i64 (sg4 (J9 (bt (List.drop (64 * j) (J4 l))) i) i)) (hv := by intro W; rw [Y70, ← Q3k (by omega) (by omega)]; exact J2h rfl rfl rfl)
      refine MW ?_ (v := .pointer (some ⟨J5g, 0 + i, none⟩)) (hv := fun _ => J5 (m := 64) (by decide) (by omega) Tryz.underlying100 (by kernel_rfl) rfl rfl rfl)
      refine MZt ?_
      refine MP 0 (v := .int .i64 (sg4 (J9 (bt (List.drop (64 * j) (J4 l))) i) i)) (cs' := J0 .i64 64 (upd (J9 (bt (List.drop (64 * j) (J4 l))) i) i (sg4 (J9 (bt (List.drop (64 * j) (J4 l))) i) i))) ?_ (hs := by rw [J2, Nat.zero_add]; omega) (hc := by rw [Nat.zero_add]; exact K0 _ _ _ _ _)
      refine MZn fun W hS => ?_
      rw [Z3y h16] at hS
      go_wp2
      go_roundw
      case rel => exact ⟨i + 1, by omega, by go_num, hS⟩
      case measure => simp [intOf]; omega
     have _f := h64
     obtain rfl : i = 64 := by omega
     go_upto_region 15 with fail
     refine RL hS ?_
     clear hS
     refine MV ?_
     refine MW ?_ (v := .bool false)
     refine MZ fun W hS => ?_
     go_upto_region 22 with fail
     refine RL hS ?_
     clear hS
     refine ML 1 ?_
     refine MN (z := J0 .i64 8 (fun _ => 0)) (t := 99) ?_
     intro J0z
     refine MR 0 ?_ 
     refine MZ fun W hS => ?_
     go_wp2_with fail
     go_loopw [14] (fun ii wr => ∃ (i : Nat), (i ≤ 64) ∧ (ii = .int .i64 (i : Int)) ∧ SH [] w wr [.b J0z (J0 .i64 8 (J8 Z6 (J9 (bt (List.drop (64 * j) (J4 l))) 64) (Y3 (J4 l) j) i)) 99, .b J5g (J0 .i64 64 (J9 (bt (List.drop (64 * j) (J4 l))) 64)) 100, .b J9h (J0 .i64 8 (Y3 (J4 l) j)) 99, .s Q4x (J4 l)])
      (fun ii _ => 64 - (intOf ii).toNat)
     case atStart => exact ⟨0, Nat.zero_le _, rfl, hS⟩
     clear hS
     case round =>
      obtain ⟨i, hi, rfl, hS⟩ := hrel
      have hv := Q6v (k := Z6) (w := J9 (bt (List.drop (64 * j) (J4 l))) 64) hh i
      have q7 := hv 7
      have q3 := hv 3
      have qk := Y4x i
      have qw := Q6u hb 64 i
      have qb := Q6t (hv 4) 6 11 25
      have qc := J5r (J57 (hv 4) (hv 5)) (J57 (Z27 (hv 4)) (hv 6))
      have qB := Q6t (hv 0) 2 13 22
      have qM := J5r (J5r (J57 (hv 0) (hv 1)) (J57 (hv 0) (hv 2))) (J57 (hv 1) (hv 2))
      have qT := Y72 i (Y4x i) (Q6u hb 64 i) hv
      have qU := Y73 hv
      unfold W4 at q7 q3 qk qw qb qc qB qM
      by_cases h64 : i < 64
      ·
       have _f := h64
       go_upto_region 24 with fail
       refine RL hS ?_
       clear hS
       refine MV ?_
       refine MW ?_ (v := .bool true)
       refine MZ fun W hS => ?_
       go_upto_region 26 with fail
       refine RS hS ?_
       clear hS
       refine MW ?_ (v := .pointer (some ⟨J0z, 0 + 7, none⟩)) (hv := fun _ => J5 (m := 8) (by decide) (by omega) Tryz.underlying99 (by kernel_rfl) rfl rfl rfl)
       refine MG 0 ?_ (j := 0 + 7) (v := .int .i64 ((J8 Z6 (J9 (bt (List.drop (64 * j) (J4 l))) 64) (Y3 (J4 l) j) i) 7)) (hj := by rw [Nat.zero_add]; exact J6 _ _ _ _ (by omega))
       refine MW ?_ (v := .pointer (some ⟨J0z, 0 + 4, none⟩)) (hv := fun _ => J5 (m := 8) (by decide) (by omega) Tryz.underlying99 (by kernel_rfl) rfl rfl rfl)
       refine MG 0 ?_ (j := 0 + 4) (v := .int .i64 ((J8 Z6 (J9 (bt (List.drop (64 * j) (J4 l))) 64) (Y3 (J4 l) j) i) 4)) (hj := by rw [Nat.zero_add]; exact J6 _ _ _ _ (by omega))
       refine MC (v := .int .i64 (rt4 ((J8 Z6 (J9 (bt (List.drop (64 * j) (J4 l))) 64) (Y3 (J4 l) j) i) 4) 6)) (fun W hS => J3u ((J8 Z6 (J9 (bt (List.drop (64 * j) (J4 l))) 64) (Y3 (J4 l) j) i) 4) (hv 4) 6 (by decide) (by decide) W) ?_
       refine MW ?_ (v := .pointer (some ⟨J0z, 0 + 4, none⟩)) (hv := fun _ => J5 (m := 8) (by decide) (by omega) Tryz.underlying99 (by kernel_rfl) rfl rfl rfl)
       refine MG 0 ?_ (j := 0 + 4) (v := .int .i64 ((J8 Z6 (J9 (bt (List.drop (64 * j) (J4 l))) 64) (Y3 (J4 l) j) i) 4)) (hj := by rw [Nat.zero_add]; exact J6 _ _ _ _ (by omega))
       refine MC (v := .int .i64 (rt4 ((J8 Z6 (J9 (bt (List.drop (64 * j) (J4 l))) 64) (Y3 (J4 l) j) i) 4) 11)) (fun W hS => J3u ((J8 Z6 (J9 (bt (List.drop (64 * j) (J4 l))) 64) (Y3 (J4 l) j) i) 4) (hv 4) 11 (by decide) (by decide) W) ?_
       refine MW ?_ (v := .int .i64 (xo4 (rt4 ((J8 Z6 (J9 (bt (List.drop (64 * j) (J4 l))) 64) (Y3 (J4 l) j) i) 4) 6) (rt4 ((J8 Z6 (J9 (bt (List.drop (64 * j) (J4 l))) 64) (Y3 (J4 l) j) i) 4) 11))) (hv := by intro W; rw [show (xo4 (rt4 ((J8 Z6 (J9 (bt (List.drop (64 * j) (J4 l))) 64) (Y3 (J4 l) j) i) 4) 6) (rt4 ((J8 Z6 (J9 (bt (List.drop (64 * j) (J4 l))) 64) (Y3 (J4 l) j) i) 4) 11)) = bits .xor .i64 (rt4 ((J8 Z6 (J9 (bt (List.drop (64 * j) (J4 l))) 64) (Y3 (J4 l) j) i) 4) 6) (rt4 ((J8 Z6 (J9 (bt (List.drop (64 * j) (J4 l))) 64) (Y3 (J4 l) j) i) 4) 11) from (J5k (J2z (hv 4)) (J2z (hv 4))).symm]; exact J1x rfl rfl rfl)
       refine MW ?_ (v := .pointer (some ⟨J0z, 0 + 4, none⟩)) (hv := fun _ => J5 (m := 8) (by decide) (by omega) Tryz.underlying99 (by kernel_rfl) rfl rfl rfl)
       refine MG 0 ?_ (j := 0 + 4) (v := .int .i64 ((J8 Z6 (J9 (bt (List.drop (64 * j) (J4 l))) 64) (Y3 (J4 l) j) i) 4)) (hj := by rw [Nat.zero_add]; exact J6 _ _ _ _ (by omega))
       refine MC (v := .int .i64 (rt4 ((J8 Z6 (J9 (bt (List.drop (64 * j) (J4 l))) 64) (Y3 (J4 l) j) i) 4) 25)) (fun W hS => J3u ((J8 Z6 (J9 (bt (List.drop (64 * j) (J4 l))) 64) (Y3 (J4 l) j) i) 4) (hv 4) 25 (by decide) (by decide) W) ?_
       refine MW ?_ (v := .int .i64 (J8s (J8 Z6 (J9 (bt (List.drop (64 * j) (J4 l))) 64) (Y3 (J4 l) j) i 4) 6 11 25)) (hv := by intro W; rw [show (J8s (J8 Z6 (J9 (bt (List.drop (64 * j) (J4 l))) 64) (Y3 (J4 l) j) i 4) 6 11 25) = bits .xor .i64 (xo4 (rt4 ((J8 Z6 (J9 (bt (List.drop (64 * j) (J4 l))) 64) (Y3 (J4 l) j) i) 4) 6) (rt4 ((J8 Z6 (J9 (bt (List.drop (64 * j) (J4 l))) 64) (Y3 (J4 l) j) i) 4) 11)) (rt4 ((J8 Z6 (J9 (bt (List.drop (64 * j) (J4 l))) 64) (Y3 (J4 l) j) i) 4) 25) from (J5k (J5r (J2z (hv 4)) (J2z (hv 4))) (J2z (hv 4))).symm]; exact J1x rfl rfl rfl)
       refine MW ?_ (v := .int .i64 (((J8 Z6 (J9 (bt (List.drop (64 * j) (J4 l))) 64) (Y3 (J4 l) j) i) 7) + (J8s (J8 Z6 (J9 (bt (List.drop (64 * j) (J4 l))) 64) (Y3 (J4 l) j) i 4) 6 11 25))) (hv := by intro W; exact J3a (by omega) rfl rfl rfl)
       refine MW ?_ (v := .pointer (some ⟨J0z, 0 + 4, none⟩)) (hv := fun _ => J5 (m := 8) (by decide) (by omega) Tryz.underlying99 (by kernel_rfl) rfl rfl rfl)
       refine MG 0 ?_ (j := 0 + 4) (v := .int .i64 ((J8 Z6 (J9 (bt (List.drop (64 * j) (J4 l))) 64) (Y3 (J4 l) j) i) 4)) (hj := by rw [Nat.zero_add]; exact J6 _ _ _ _ (by omega))
       refine MW ?_ (v := .pointer (some ⟨J0z, 0 + 5, none⟩)) (hv := fun _ => J5 (m := 8) (by decide) (by omega) Tryz.underlying99 (by kernel_rfl) rfl rfl rfl)
       refine MG 0 ?_ (j := 0 + 5) (v := .int .i64 ((J8 Z6 (J9 (bt (List.drop (64 * j) (J4 l))) 64) (Y3 (J4 l) j) i) 5)) (hj := by rw [Nat.zero_add]; exact J6 _ _ _ _ (by omega))
       refine MW ?_ (v := .int .i64 (an4 ((J8 Z6 (J9 (bt (List.drop (64 * j) (J4 l))) 64) (Y3 (J4 l) j) i) 4) ((J8 Z6 (J9 (bt (List.drop (64 * j) (J4 l))) 64) (Y3 (J4 l) j) i) 5))) (hv := by intro W; rw [show (an4 ((J8 Z6 (J9 (bt (List.drop (64 * j) (J4 l))) 64) (Y3 (J4 l) j) i) 4) ((J8 Z6 (J9 (bt (List.drop (64 * j) (J4 l))) 64) (Y3 (J4 l) j) i) 5)) = bits .and .i64 ((J8 Z6 (J9 (bt (List.drop (64 * j) (J4 l))) 64) (Y3 (J4 l) j) i) 4) ((J8 Z6 (J9 (bt (List.drop (64 * j) (J4 l))) 64) (Y3 (J4 l) j) i) 5) from (Q3l (hv 4) (hv 5)).symm]; exact J2h rfl rfl rfl)
       refine MW ?_ (v := .pointer (some ⟨J0z, 0 + 4, none⟩)) (hv := fun _ => J5 (m := 8) (by decide) (by omega) Tryz.underlying99 (by kernel_rfl) rfl rfl rfl)
       refine MG 0 ?_ (j := 0 + 4) (v := .int .i64 ((J8 Z6 (J9 (bt (List.drop (64 * j) (J4 l))) 64) (Y3 (J4 l) j) i) 4)) (hj := by rw [Nat.zero_add]; exact J6 _ _ _ _ (by omega))
       refine MW ?_ (v := .int .i64 (nt4 ((J8 Z6 (J9 (bt (List.drop (64 * j) (J4 l))) 64) (Y3 (J4 l) j) i) 4))) (hv := by intro W; rw [show nt4 ((J8 Z6 (J9 (bt (List.drop (64 * j) (J4 l))) 64) (Y3 (J4 l) j) i) 4) = bits .xor .i64 4294967295 ((J8 Z6 (J9 (bt (List.drop (64 * j) (J4 l))) 64) (Y3 (J4 l) j) i) 4) from (V1h (hv 4)).symm]; exact J1x rfl rfl rfl)
       refine MW ?_ (v := .pointer (some ⟨J0z, 0 + 6, none⟩)) (hv := fun _ => J5 (m := 8) (by decide) (by omega) Tryz.underlying99 (by kernel_rfl) rfl rfl rfl)
       refine MG 0 ?_ (j := 0 + 6) (v := .int .i64 ((J8 Z6 (J9 (bt (List.drop (64 * j) (J4 l))) 64) (Y3 (J4 l) j) i) 6)) (hj := by rw [Nat.zero_add]; exact J6 _ _ _ _ (by omega))
       refine MW ?_ (v := .int .i64 (an4 (nt4 ((J8 Z6 (J9 (bt (List.drop (64 * j) (J4 l))) 64) (Y3 (J4 l) j) i) 4)) ((J8 Z6 (J9 (bt (List.drop (64 * j) (J4 l))) 64) (Y3 (J4 l) j) i) 6))) (hv := by intro W; rw [show (an4 (nt4 ((J8 Z6 (J9 (bt (List.drop (64 * j) (J4 l))) 64) (Y3 (J4 l) j) i) 4)) ((J8 Z6 (J9 (bt (List.drop (64 * j) (J4 l))) 64) (Y3 (J4 l) j) i) 6)) = bits .and .i64 (nt4 ((J8 Z6 (J9 (bt (List.drop (64 * j) (J4 l))) 64) (Y3 (J4 l) j) i) 4)) ((J8 Z6 (J9 (bt (List.drop (64 * j) (J4 l))) 64) (Y3 (J4 l) j) i) 6) from (Q3l (Z27 (hv 4)) (hv 6)).symm]; exact J2h rfl rfl rfl)
       refine MW ?_ (v := .int .i64 (xo4 (an4 ((J8 Z6 (J9 (bt (List.drop (64 * j) (J4 l))) 64) (Y3 (J4 l) j) i) 4) ((J8 Z6 (J9 (bt (List.drop (64 * j) (J4 l))) 64) (Y3 (J4 l) j) i) 5)) (an4 (nt4 ((J8 Z6 (J9 (bt (List.drop (64 * j) (J4 l))) 64) (Y3 (J4 l) j) i) 4)) ((J8 Z6 (J9 (bt (List.drop (64 * j) (J4 l))) 64) (Y3 (J4 l) j) i) 6)))) (hv := by intro W; rw [show (xo4 (an4 ((J8 Z6 (J9 (bt (List.drop (64 * j) (J4 l))) 64) (Y3 (J4 l) j) i) 4) ((J8 Z6 (J9 (bt (List.drop (64 * j) (J4 l))) 64) (Y3 (J4 l) j) i) 5)) (an4 (nt4 ((J8 Z6 (J9 (bt (List.drop (64 * j) (J4 l))) 64) (Y3 (J4 l) j) i) 4)) ((J8 Z6 (J9 (bt (List.drop (64 * j) (J4 l))) 64) (Y3 (J4 l) j) i) 6))) = bits .xor .i64 (an4 ((J8 Z6 (J9 (bt (List.drop (64 * j) (J4 l))) 64) (Y3 (J4 l) j) i) 4) ((J8 Z6 (J9 (bt (List.drop (64 * j) (J4 l))) 64) (Y3 (J4 l) j) i) 5)) (an4 (nt4 ((J8 Z6 (J9 (bt (List.drop (64 * j) (J4 l))) 64) (Y3 (J4 l) j) i) 4)) ((J8 Z6 (J9 (bt (List.drop (64 * j) (J4 l))) 64) (Y3 (J4 l) j) i) 6)) from (J5k (J57 (hv 4) (hv 5)) (J57 (Z27 (hv 4)) (hv 6))).symm]; exact J1x rfl rfl rfl)
       refine MW ?_ (v := .int .i64 ((((J8 Z6 (J9 (bt (List.drop (64 * j) (J4 l))) 64) (Y3 (J4 l) j) i) 7) + (J8s (J8 Z6 (J9 (bt (List.drop (64 * j) (J4 l))) 64) (Y3 (J4 l) j) i 4) 6 11 25)) + (xo4 (an4 ((J8 Z6 (J9 (bt (List.drop (64 * j) (J4 l))) 64) (Y3 (J4 l) j) i) 4) ((J8 Z6 (J9 (bt (List.drop (64 * j) (J4 l))) 64) (Y3 (J4 l) j) i) 5)) (an4 (nt4 ((J8 Z6 (J9 (bt (List.drop (64 * j) (J4 l))) 64) (Y3 (J4 l) j) i) 4)) ((J8 Z6 (J9 (bt (List.drop (64 * j) (J4 l))) 64) (Y3 (J4 l) j) i) 6))))) (hv := by intro W; exact J3a (by omega) rfl rfl rfl)
       refine MV ?_
       refine MW ?_ (v := .pointer (some ⟨1, 0 + i, none⟩)) (hv := fun _ => J5 (m := 64) (by decide) (by omega) Tryz.underlying100 (by kernel_rfl) rfl rfl rfl)
       refine MF (v := .int .i64 (Z6 i)) (fun W hS => V2 rfl rfl (((J84 HG.out hS.ext).1).1 _ _ (by rw [Nat.zero_add]; exact J6 _ _ _ _ (by omega))) (by kernel_rfl)) ?_
       refine MW ?_ (v := .int .i64 (((((J8 Z6 (J9 (bt (List.drop (64 * j) (J4 l))) 64) (Y3 (J4 l) j) i) 7) + (J8s (J8 Z6 (J9 (bt (List.drop (64 * j) (J4 l))) 64) (Y3 (J4 l) j) i 4) 6 11 25)) + (xo4 (an4 ((J8 Z6 (J9 (bt (List.drop (64 * j) (J4 l))) 64) (Y3 (J4 l) j) i) 4) ((J8 Z6 (J9 (bt (List.drop (64 * j) (J4 l))) 64) (Y3 (J4 l) j) i) 5)) (an4 (nt4 ((J8 Z6 (J9 (bt (List.drop (64 * j) (J4 l))) 64) (Y3 (J4 l) j) i) 4)) ((J8 Z6 (J9 (bt (List.drop (64 * j) (J4 l))) 64) (Y3 (J4 l) j) i) 6)))) + (Z6 i))) (hv := by intro W; exact J3a (by omega) rfl rfl rfl)
       refine MV ?_
       refine MW ?_ (v := .pointer (some ⟨J5g, 0 + i, none⟩)) (hv := fun _ => J5 (m := 64) (by decide) (by omega) Tryz.underlying100 (by kernel_rfl) rfl rfl rfl)
       refine MG 1 ?_ (j := 0 + i) (v := .int .i64 ((J9 (bt (List.drop (64 * j) (J4 l))) 64) i)) (hj := by rw [Nat.zero_add]; exact J6 _ _ _ _ (by omega))
       refine MW ?_ (v := .int .i64 (rTs Z6 (J9 (bt (List.drop (64 * j) (J4 l))) 64) i (J8 Z6 (J9 (bt (List.drop (64 * j) (J4 l))) 64) (Y3 (J4 l) j) i))) (hv := by intro W; unfold rTs; exact J3a (by omega) rfl rfl rfl)
       refine MV ?_
       refine MZx fun W hS => ?_
       go_upto_region 27 with fail
       refine RS hS ?_
       clear hS
       refine MW ?_ (v := .pointer (some ⟨J0z, 0 + 0, none⟩)) (hv := fun _ => J5 (m := 8) (by decide) (by omega) Tryz.underlying99 (by kernel_rfl) rfl rfl rfl)
       refine MG 0 ?_ (j := 0 + 0) (v := .int .i64 ((J8 Z6 (J9 (bt (List.drop (64 * j) (J4 l))) 64) (Y3 (J4 l) j) i) 0)) (hj := by rw [Nat.zero_add]; exact J6 _ _ _ _ (by omega))
       refine MC (v := .int .i64 (rt4 ((J8 Z6 (J9 (bt (List.drop (64 * j) (J4 l))) 64) (Y3 (J4 l) j) i) 0) 2)) (fun W hS => J3u ((J8 Z6 (J9 (bt (List.drop (64 * j) (J4 l))) 64) (Y3 (J4 l) j) i) 0) (hv 0) 2 (by decide) (by decide) W) ?_
       refine MW ?_ (v := .pointer (some ⟨J0z, 0 + 0, none⟩)) (hv := fun _ => J5 (m := 8) (by decide) (by omega) Tryz.underlying99 (by kernel_rfl) rfl rfl rfl)
       refine MG 0 ?_ (j := 0 + 0) (v := .int .i64 ((J8 Z6 (J9 (bt (List.drop (64 * j) (J4 l))) 64) (Y3 (J4 l) j) i) 0)) (hj := by rw [Nat.zero_add]; exact J6 _ _ _ _ (by omega))
       refine MC (v := .int .i64 (rt4 ((J8 Z6 (J9 (bt (List.drop (64 * j) (J4 l))) 64) (Y3 (J4 l) j) i) 0) 13)) (fun W hS => J3u ((J8 Z6 (J9 (bt (List.drop (64 * j) (J4 l))) 64) (Y3 (J4 l) j) i) 0) (hv 0) 13 (by decide) (by decide) W) ?_
       refine MW ?_ (v := .int .i64 (xo4 (rt4 ((J8 Z6 (J9 (bt (List.drop (64 * j) (J4 l))) 64) (Y3 (J4 l) j) i) 0) 2) (rt4 ((J8 Z6 (J9 (bt (List.drop (64 * j) (J4 l))) 64) (Y3 (J4 l) j) i) 0) 13))) (hv := by intro W; rw [show (xo4 (rt4 ((J8 Z6 (J9 (bt (List.drop (64 * j) (J4 l))) 64) (Y3 (J4 l) j) i) 0) 2) (rt4 ((J8 Z6 (J9 (bt (List.drop (64 * j) (J4 l))) 64) (Y3 (J4 l) j) i) 0) 13)) = bits .xor .i64 (rt4 ((J8 Z6 (J9 (bt (List.drop (64 * j) (J4 l))) 64) (Y3 (J4 l) j) i) 0) 2) (rt4 ((J8 Z6 (J9 (bt (List.drop (64 * j) (J4 l))) 64) (Y3 (J4 l) j) i) 0) 13) from (J5k (J2z (hv 0)) (J2z (hv 0))).symm]; exact J1x rfl rfl rfl)
       refine MW ?_ (v := .pointer (some ⟨J0z, 0 + 0, none⟩)) (hv := fun _ => J5 (m := 8) (by decide) (by omega) Tryz.underlying99 (by kernel_rfl) rfl rfl rfl)
       refine MG 0 ?_ (j := 0 + 0) (v := .int .i64 ((J8 Z6 (J9 (bt (List.drop (64 * j) (J4 l))) 64) (Y3 (J4 l) j) i) 0)) (hj := by rw [Nat.zero_add]; exact J6 _ _ _ _ (by omega))
       refine MC (v := .int .i64 (rt4 ((J8 Z6 (J9 (bt (List.drop (64 * j) (J4 l))) 64) (Y3 (J4 l) j) i) 0) 22)) (fun W hS => J3u ((J8 Z6 (J9 (bt (List.drop (64 * j) (J4 l))) 64) (Y3 (J4 l) j) i) 0) (hv 0) 22 (by decide) (by decide) W) ?_
       refine MW ?_ (v := .int .i64 (J8s (J8 Z6 (J9 (bt (List.drop (64 * j) (J4 l))) 64) (Y3 (J4 l) j) i 0) 2 13 22)) (hv := by intro W; rw [show (J8s (J8 Z6 (J9 (bt (List.drop (64 * j) (J4 l))) 64) (Y3 (J4 l) j) i 0) 2 13 22) = bits .xor .i64 (xo4 (rt4 ((J8 Z6 (J9 (bt (List.drop (64 * j) (J4 l))) 64) (Y3 (J4 l) j) i) 0) 2) (rt4 ((J8 Z6 (J9 (bt (List.drop (64 * j) (J4 l))) 64) (Y3 (J4 l) j) i) 0) 13)) (rt4 ((J8 Z6 (J9 (bt (List.drop (64 * j) (J4 l))) 64) (Y3 (J4 l) j) i) 0) 22) from (J5k (J5r (J2z (hv 0)) (J2z (hv 0))) (J2z (hv 0))).symm]; exact J1x rfl rfl rfl)
       refine MW ?_ (v := .pointer (some ⟨J0z, 0 + 0, none⟩)) (hv := fun _ => J5 (m := 8) (by decide) (by omega) Tryz.underlying99 (by kernel_rfl) rfl rfl rfl)
       refine MG 0 ?_ (j := 0 + 0) (v := .int .i64 ((J8 Z6 (J9 (bt (List.drop (64 * j) (J4 l))) 64) (Y3 (J4 l) j) i) 0)) (hj := by rw [Nat.zero_add]; exact J6 _ _ _ _ (by omega))
       refine MW ?_ (v := .pointer (some ⟨J0z, 0 + 1, none⟩)) (hv := fun _ => J5 (m := 8) (by decide) (by omega) Tryz.underlying99 (by kernel_rfl) rfl rfl rfl)
       refine MG 0 ?_ (j := 0 + 1) (v := .int .i64 ((J8 Z6 (J9 (bt (List.drop (64 * j) (J4 l))) 64) (Y3 (J4 l) j) i) 1)) (hj := by rw [Nat.zero_add]; exact J6 _ _ _ _ (by omega))
       refine MW ?_ (v := .int .i64 (an4 ((J8 Z6 (J9 (bt (List.drop (64 * j) (J4 l))) 64) (Y3 (J4 l) j) i) 0) ((J8 Z6 (J9 (bt (List.drop (64 * j) (J4 l))) 64) (Y3 (J4 l) j) i) 1))) (hv := by intro W; rw [show (an4 ((J8 Z6 (J9 (bt (List.drop (64 * j) (J4 l))) 64) (Y3 (J4 l) j) i) 0) ((J8 Z6 (J9 (bt (List.drop (64 * j) (J4 l))) 64) (Y3 (J4 l) j) i) 1)) = bits .and .i64 ((J8 Z6 (J9 (bt (List.drop (64 * j) (J4 l))) 64) (Y3 (J4 l) j) i) 0) ((J8 Z6 (J9 (bt (List.drop (64 * j) (J4 l))) 64) (Y3 (J4 l) j) i) 1) from (Q3l (hv 0) (hv 1)).symm]; exact J2h rfl rfl rfl)
       refine MW ?_ (v := .pointer (some ⟨J0z, 0 + 0, none⟩)) (hv := fun _ => J5 (m := 8) (by decide) (by omega) Tryz.underlying99 (by kernel_rfl) rfl rfl rfl)
       refine MG 0 ?_ (j := 0 + 0) (v := .int .i64 ((J8 Z6 (J9 (bt (List.drop (64 * j) (J4 l))) 64) (Y3 (J4 l) j) i) 0)) (hj := by rw [Nat.zero_add]; exact J6 _ _ _ _ (by omega))
       refine MW ?_ (v := .pointer (some ⟨J0z, 0 + 2, none⟩)) (hv := fun _ => J5 (m := 8) (by decide) (by omega) Tryz.underlying99 (by kernel_rfl) rfl rfl rfl)
       refine MG 0 ?_ (j := 0 + 2) (v := .int .i64 ((J8 Z6 (J9 (bt (List.drop (64 * j) (J4 l))) 64) (Y3 (J4 l) j) i) 2)) (hj := by rw [Nat.zero_add]; exact J6 _ _ _ _ (by omega))
       refine MW ?_ (v := .int .i64 (an4 ((J8 Z6 (J9 (bt (List.drop (64 * j) (J4 l))) 64) (Y3 (J4 l) j) i) 0) ((J8 Z6 (J9 (bt (List.drop (64 * j) (J4 l))) 64) (Y3 (J4 l) j) i) 2))) (hv := by intro W; rw [show (an4 ((J8 Z6 (J9 (bt (List.drop (64 * j) (J4 l))) 64) (Y3 (J4 l) j) i) 0) ((J8 Z6 (J9 (bt (List.drop (64 * j) (J4 l))) 64) (Y3 (J4 l) j) i) 2)) = bits .and .i64 ((J8 Z6 (J9 (bt (List.drop (64 * j) (J4 l))) 64) (Y3 (J4 l) j) i) 0) ((J8 Z6 (J9 (bt (List.drop (64 * j) (J4 l))) 64) (Y3 (J4 l) j) i) 2) from (Q3l (hv 0) (hv 2)).symm]; exact J2h rfl rfl rfl)
       refine MW ?_ (v := .int .i64 (xo4 (an4 ((J8 Z6 (J9 (bt (List.drop (64 * j) (J4 l))) 64) (Y3 (J4 l) j) i) 0) ((J8 Z6 (J9 (bt (List.drop (64 * j) (J4 l))) 64) (Y3 (J4 l) j) i) 1)) (an4 ((J8 Z6 (J9 (bt (List.drop (64 * j) (J4 l))) 64) (Y3 (J4 l) j) i) 0) ((J8 Z6 (J9 (bt (List.drop (64 * j) (J4 l))) 64) (Y3 (J4 l) j) i) 2)))) (hv := by intro W; rw [show (xo4 (an4 ((J8 Z6 (J9 (bt (List.drop (64 * j) (J4 l))) 64) (Y3 (J4 l) j) i) 0) ((J8 Z6 (J9 (bt (List.drop (64 * j) (J4 l))) 64) (Y3 (J4 l) j) i) 1)) (an4 ((J8 Z6 (J9 (bt (List.drop (64 * j) (J4 l))) 64) (Y3 (J4 l) j) i) 0) ((J8 Z6 (J9 (bt (List.drop (64 * j) (J4 l))) 64) (Y3 (J4 l) j) i) 2))) = bits .xor .i64 (an4 ((J8 Z6 (J9 (bt (List.drop (64 * j) (J4 l))) 64) (Y3 (J4 l) j) i) 0) ((J8 Z6 (J9 (bt (List.drop (64 * j) (J4 l))) 64) (Y3 (J4 l) j) i) 1)) (an4 ((J8 Z6 (J9 (bt (List.drop (64 * j) (J4 l))) 64) (Y3 (J4 l) j) i) 0) ((J8 Z6 (J9 (bt (List.drop (64 * j) (J4 l))) 64) (Y3 (J4 l) j) i) 2)) from (J5k (J57 (hv 0) (hv 1)) (J57 (hv 0) (hv 2))).symm]; exact J1x rfl rfl rfl)
       refine MW ?_ (v := .pointer (some ⟨J0z, 0 + 1, none⟩)) (hv := fun _ => J5 (m := 8) (by decide) (by omega) Tryz.underlying99 (by kernel_rfl) rfl rfl rfl)
       refine MG 0 ?_ (j := 0 + 1) (v := .int .i64 ((J8 Z6 (J9 (bt (List.drop (64 * j) (J4 l))) 64) (Y3 (J4 l) j) i) 1)) (hj := by rw [Nat.zero_add]; exact J6 _ _ _ _ (by omega))
       refine MW ?_ (v := .pointer (some ⟨J0z, 0 + 2, none⟩)) (hv := fun _ => J5 (m := 8) (by decide) (by omega) Tryz.underlying99 (by kernel_rfl) rfl rfl rfl)
       refine MG 0 ?_ (j := 0 + 2) (v := .int .i64 ((J8 Z6 (J9 (bt (List.drop (64 * j) (J4 l))) 64) (Y3 (J4 l) j) i) 2)) (hj := by rw [Nat.zero_add]; exact J6 _ _ _ _ (by omega))
       refine MW ?_ (v := .int .i64 (an4 ((J8 Z6 (J9 (bt (List.drop (64 * j) (J4 l))) 64) (Y3 (J4 l) j) i) 1) ((J8 Z6 (J9 (bt (List.drop (64 * j) (J4 l))) 64) (Y3 (J4 l) j) i) 2))) (hv := by intro W; rw [show (an4 ((J8 Z6 (J9 (bt (List.drop (64 * j) (J4 l))) 64) (Y3 (J4 l) j) i) 1) ((J8 Z6 (J9 (bt (List.drop (64 * j) (J4 l))) 64) (Y3 (J4 l) j) i) 2)) = bits .and .i64 ((J8 Z6 (J9 (bt (List.drop (64 * j) (J4 l))) 64) (Y3 (J4 l) j) i) 1) ((J8 Z6 (J9 (bt (List.drop (64 * j) (J4 l))) 64) (Y3 (J4 l) j) i) 2) from (Q3l (hv 1) (hv 2)).symm]; exact J2h rfl rfl rfl)
       refine MW ?_ (v := .int .i64 (xo4 (xo4 (an4 ((J8 Z6 (J9 (bt (List.drop (64 * j) (J4 l))) 64) (Y3 (J4 l) j) i) 0) ((J8 Z6 (J9 (bt (List.drop (64 * j) (J4 l))) 64) (Y3 (J4 l) j) i) 1)) (an4 ((J8 Z6 (J9 (bt (List.drop (64 * j) (J4 l))) 64) (Y3 (J4 l) j) i) 0) ((J8 Z6 (J9 (bt (List.drop (64 * j) (J4 l))) 64) (Y3 (J4 l) j) i) 2))) (an4 ((J8 Z6 (J9 (bt (List.drop (64 * j) (J4 l))) 64) (Y3 (J4 l) j) i) 1) ((J8 Z6 (J9 (bt (List.drop (64 * j) (J4 l))) 64) (Y3 (J4 l) j) i) 2)))) (hv := by intro W; rw [show (xo4 (xo4 (an4 ((J8 Z6 (J9 (bt (List.drop (64 * j) (J4 l))) 64) (Y3 (J4 l) j) i) 0) ((J8 Z6 (J9 (bt (List.drop (64 * j) (J4 l))) 64) (Y3 (J4 l) j) i) 1)) (an4 ((J8 Z6 (J9 (bt (List.drop (64 * j) (J4 l))) 64) (Y3 (J4 l) j) i) 0) ((J8 Z6 (J9 (bt (List.drop (64 * j) (J4 l))) 64) (Y3 (J4 l) j) i) 2))) (an4 ((J8 Z6 (J9 (bt (List.drop (64 * j) (J4 l))) 64) (Y3 (J4 l) j) i) 1) ((J8 Z6 (J9 (bt (List.drop (64 * j) (J4 l))) 64) (Y3 (J4 l) j) i) 2))) = bits .xor .i64 (xo4 (an4 ((J8 Z6 (J9 (bt (List.drop (64 * j) (J4 l))) 64) (Y3 (J4 l) j) i) 0) ((J8 Z6 (J9 (bt (List.drop (64 * j) (J4 l))) 64) (Y3 (J4 l) j) i) 1)) (an4 ((J8 Z6 (J9 (bt (List.drop (64 * j) (J4 l))) 64) (Y3 (J4 l) j) i) 0) ((J8 Z6 (J9 (bt (List.drop (64 * j) (J4 l))) 64) (Y3 (J4 l) j) i) 2))) (an4 ((J8 Z6 (J9 (bt (List.drop (64 * j) (J4 l))) 64) (Y3 (J4 l) j) i) 1) ((J8 Z6 (J9 (bt (List.drop (64 * j) (J4 l))) 64) (Y3 (J4 l) j) i) 2)) from (J5k (J5r (J57 (hv 0) (hv 1)) (J57 (hv 0) (hv 2))) (J57 (hv 1) (hv 2))).symm]; exact J1x rfl rfl rfl)
       refine MW ?_ (v := .int .i64 (rUs (J8 Z6 (J9 (bt (List.drop (64 * j) (J4 l))) 64) (Y3 (J4 l) j) i))) (hv := by intro W; unfold rUs; exact J3a (by omega) rfl rfl rfl)
       refine MV ?_
       refine MZx fun W hS => ?_
       go_upto_region 28 with fail
       refine RL hS ?_
       clear hS
       refine MV ?_
       refine MV ?_
       refine MW ?_ (v := .int .i64 ((rTs Z6 (J9 (bt (List.drop (64 * j) (J4 l))) 64) i (J8 Z6 (J9 (bt (List.drop (64 * j) (J4 l))) 64) (Y3 (J4 l) j) i)) + (rUs (J8 Z6 (J9 (bt (List.drop (64 * j) (J4 l))) 64) (Y3 (J4 l) j) i)))) (hv := by intro W; exact J3a (by omega) rfl rfl rfl)
       refine MW ?_ (v := .int .i64 (Z0r Z6 (J9 (bt (List.drop (64 * j) (J4 l))) 64) i (J8 Z6 (J9 (bt (List.drop (64 * j) (J4 l))) 64) (Y3 (J4 l) j) i) 0)) (hv := by intro W; rw [← V5a, ← Q3k (by omega) (by omega)]; exact J2h rfl rfl rfl)
       refine MW ?_ (v := .pointer (some ⟨J0z, 0 + 0, none⟩)) (hv := fun _ => J5 (m := 8) (by decide) (by omega) Tryz.underlying99 (by kernel_rfl) rfl rfl rfl)
       refine MG 0 ?_ (j := 0 + 0) (v := .int .i64 ((J8 Z6 (J9 (bt (List.drop (64 * j) (J4 l))) 64) (Y3 (J4 l) j) i) 0)) (hj := by rw [Nat.zero_add]; exact J6 _ _ _ _ (by omega))
       refine MW ?_ (v := .pointer (some ⟨J0z, 0 + 1, none⟩)) (hv := fun _ => J5 (m := 8) (by decide) (by omega) Tryz.underlying99 (by kernel_rfl) rfl rfl rfl)
       refine MG 0 ?_ (j := 0 + 1) (v := .int .i64 ((J8 Z6 (J9 (bt (List.drop (64 * j) (J4 l))) 64) (Y3 (J4 l) j) i) 1)) (hj := by rw [Nat.zero_add]; exact J6 _ _ _ _ (by omega))
       refine MW ?_ (v := .pointer (some ⟨J0z, 0 + 2, none⟩)) (hv := fun _ => J5 (m := 8) (by decide) (by omega) Tryz.underlying99 (by kernel_rfl) rfl rfl rfl)
       refine MG 0 ?_ (j := 0 + 2) (v := .int .i64 ((J8 Z6 (J9 (bt (List.drop (64 * j) (J4 l))) 64) (Y3 (J4 l) j) i) 2)) (hj := by rw [Nat.zero_add]; exact J6 _ _ _ _ (by omega))
       refine MW ?_ (v := .pointer (some ⟨J0z, 0 + 3, none⟩)) (hv := fun _ => J5 (m := 8) (by decide) (by omega) Tryz.underlying99 (by kernel_rfl) rfl rfl rfl)
       refine MG 0 ?_ (j := 0 + 3) (v := .int .i64 ((J8 Z6 (J9 (bt (List.drop (64 * j) (J4 l))) 64) (Y3 (J4 l) j) i) 3)) (hj := by rw [Nat.zero_add]; exact J6 _ _ _ _ (by omega))
       refine MV ?_
       refine MW ?_ (v := .int .i64 (((J8 Z6 (J9 (bt (List.drop (64 * j) (J4 l))) 64) (Y3 (J4 l) j) i) 3) + (rTs Z6 (J9 (bt (List.drop (64 * j) (J4 l))) 64) i (J8 Z6 (J9 (bt (List.drop (64 * j) (J4 l))) 64) (Y3 (J4 l) j) i)))) (hv := by intro W; exact J3a (by omega) rfl rfl rfl)
       refine MW ?_ (v := .int .i64 (Z0r Z6 (J9 (bt (List.drop (64 * j) (J4 l))) 64) i (J8 Z6 (J9 (bt (List.drop (64 * j) (J4 l))) 64) (Y3 (J4 l) j) i) 4)) (hv := by intro W; rw [← V1n, ← Q3k (by omega) (by omega)]; exact J2h rfl rfl rfl)
       refine MW ?_ (v := .pointer (some ⟨J0z, 0 + 4, none⟩)) (hv := fun _ => J5 (m := 8) (by decide) (by omega) Tryz.underlying99 (by kernel_rfl) rfl rfl rfl)
       refine MG 0 ?_ (j := 0 + 4) (v := .int .i64 ((J8 Z6 (J9 (bt (List.drop (64 * j) (J4 l))) 64) (Y3 (J4 l) j) i) 4)) (hj := by rw [Nat.zero_add]; exact J6 _ _ _ _ (by omega))
       refine MW ?_ (v := .pointer (some ⟨J0z, 0 + 5, none⟩)) (hv := fun _ => J5 (m := 8) (by decide) (by omega) Tryz.underlying99 (by kernel_rfl) rfl rfl rfl)
       refine MG 0 ?_ (j := 0 + 5) (v := .int .i64 ((J8 Z6 (J9 (bt (List.drop (64 * j) (J4 l))) 64) (Y3 (J4 l) j) i) 5)) (hj := by rw [Nat.zero_add]; exact J6 _ _ _ _ (by omega))
       refine MW ?_ (v := .pointer (some ⟨J0z, 0 + 6, none⟩)) (hv := fun _ => J5 (m := 8) (by decide) (by omega) Tryz.underlying99 (by kernel_rfl) rfl rfl rfl)
       refine MG 0 ?_ (j := 0 + 6) (v := .int .i64 ((J8 Z6 (J9 (bt (List.drop (64 * j) (J4 l))) 64) (Y3 (J4 l) j) i) 6)) (hj := by rw [Nat.zero_add]; exact J6 _ _ _ _ (by omega))
       refine MW ?_ (v := .agg (J0 .i64 8 (J8 Z6 (J9 (bt (List.drop (64 * j) (J4 l))) 64) (Y3 (J4 l) j) (i + 1)))) (hv := by intro W; first | rfl | (go_simp; rfl))
       refine MR 0 ?_ 
       refine MZ fun W hS => ?_
       go_wp2
       go_roundw
       case rel => exact ⟨i + 1, by omega, by go_num, hS⟩
       case measure => simp [intOf]; omega
      have _f := h64
      obtain rfl : i = 64 := by omega
      go_upto_region 24 with fail
      refine RL hS ?_
      clear hS
      refine MV ?_
      refine MW ?_ (v := .bool false)
      refine MZ fun W hS => ?_
      go_wp2_with fail
      go_loopw [17] (fun ii wr => ∃ (i : Nat), (i ≤ 8) ∧ (ii = .int .i64 (i : Int)) ∧ SH [] w wr [.b J0z (J0 .i64 8 (J8 Z6 (J9 (bt (List.drop (64 * j) (J4 l))) 64) (Y3 (J4 l) j) 64)) 99, .b J9h (J0 .i64 8 (mx4 (Y3 (J4 l) j) (J8 Z6 (J9 (bt (List.drop (64 * j) (J4 l))) 64) (Y3 (J4 l) j) 64) i)) 99, .s Q4x (J4 l)])
       (fun ii _ => 8 - (intOf ii).toNat)
      case atStart => exact ⟨0, Nat.zero_le _, rfl, (by rw [Z04]; exact (hS.pick [0, 2, 3]))⟩
      clear hS
      case round =>
       obtain ⟨i, hi, rfl, hS⟩ := hrel
       have qm := V1m (v := J8 Z6 (J9 (bt (List.drop (64 * j) (J4 l))) 64) (Y3 (J4 l) j) 64) hh i i
       have qv := Q6v (k := Z6) (w := J9 (bt (List.drop (64 * j) (J4 l))) 64) hh 64 i
       unfold W4 at qm qv
       by_cases h8 : i < 8
       ·
        have _f := h8
        go_upto_region 30 with fail
        refine RL hS ?_
        clear hS
        refine MV ?_
        refine MW ?_ (v := .bool true)
        refine MZ fun W hS => ?_
        go_upto_region 32 with fail
        refine RX 10 hS ?_
        clear hS
        refine MV ?_
        refine MV ?_
        refine MW ?_ (v := .pointer (some ⟨J9h, 0 + i, none⟩)) (hv := fun _ => J5 (m := 8) (by decide) (by omega) Tryz.underlying99 (by kernel_rfl) rfl rfl rfl)
        refine MG 1 ?_ (j := 0 + i) (v := .int .i64 ((mx4 (Y3 (J4 l) j) (J8 Z6 (J9 (bt (List.drop (64 * j) (J4 l))) 64) (Y3 (J4 l) j) 64) i) i)) (hj := by rw [Nat.zero_add]; exact J6 _ _ _ _ (by omega))
        refine MV ?_
        refine MW ?_ (v := .pointer (some ⟨J0z, 0 + i, none⟩)) (hv := fun _ => J5 (m := 8) (by decide) (by omega) Tryz.underlying99 (by kernel_rfl) rfl rfl rfl)
        refine MG 0 ?_ (j := 0 + i) (v := .int .i64 ((J8 Z6 (J9 (bt (List.drop (64 * j) (J4 l))) 64) (Y3 (J4 l) j) 64) i)) (hj := by rw [Nat.zero_add]; exact J6 _ _ _ _ (by omega))
        refine MW ?_ (v := .int .i64 (((mx4 (Y3 (J4 l) j) (J8 Z6 (J9 (bt (List.drop (64 * j) (J4 l))) 64) (Y3 (J4 l) j) 64) i) i) + ((J8 Z6 (J9 (bt (List.drop (64 * j) (J4 l))) 64) (Y3 (J4 l) j) 64) i))) (hv := by intro W; exact J3a (by omega) rfl rfl rfl)
        refine MW ?_ (v := .int .i64 (ad4 (mx4 (Y3 (J4 l) j) (J8 Z6 (J9 (bt (List.drop (64 * j) (J4 l))) 64) (Y3 (J4 l) j) 64) i i) (J8 Z6 (J9 (bt (List.drop (64 * j) (J4 l))) 64) (Y3 (J4 l) j) 64 i))) (hv := by intro W; rw [Q1u, ← Q3k (by omega) (by omega)]; exact J2h rfl rfl rfl)
        refine MW ?_ (v := .pointer (some ⟨J9h, 0 + i, none⟩)) (hv := fun _ => J5 (m := 8) (by decide) (by omega) Tryz.underlying99 (by kernel_rfl) rfl rfl rfl)
        refine MZt ?_
        refine MP 1 (v := .int .i64 (ad4 (mx4 (Y3 (J4 l) j) (J8 Z6 (J9 (bt (List.drop (64 * j) (J4 l))) 64) (Y3 (J4 l) j) 64) i i) (J8 Z6 (J9 (bt (List.drop (64 * j) (J4 l))) 64) (Y3 (J4 l) j) 64 i))) (cs' := J0 .i64 8 (upd (mx4 (Y3 (J4 l) j) (J8 Z6 (J9 (bt (List.drop (64 * j) (J4 l))) 64) (Y3 (J4 l) j) 64) i) i (ad4 (mx4 (Y3 (J4 l) j) (J8 Z6 (J9 (bt (List.drop (64 * j) (J4 l))) 64) (Y3 (J4 l) j) 64) i i) (J8 Z6 (J9 (bt (List.drop (64 * j) (J4 l))) 64) (Y3 (J4 l) j) 64 i)))) ?_ (hs := by rw [J2, Nat.zero_add]; omega) (hc := by rw [Nat.zero_add]; exact K0 _ _ _ _ _)
        refine MZn fun W hS => ?_
        go_wp2
        go_roundw
        case rel => exact ⟨i + 1, by omega, by go_num, (by rw [← Z03]; exact hS)⟩
        case measure => simp [intOf]; omega
       have _f := h8
       obtain rfl : i = 8 := by omega
       rw [Y46] at hS
       go_upto_region 30 with fail
       refine RL hS ?_
       clear hS
       refine MV ?_
       refine MW ?_ (v := .bool false)
       refine MZ fun W hS => ?_
       go_wp2
       go_roundw
       case rel => exact ⟨j + 1, by omega, by first | go_num | (go_simp; omega), (hS.pick [1, 2])⟩
       case measure => simp [intOf]; omega
   have _f := hjl
   obtain rfl : j = nb4 l.length := by omega
   go_upto_region 11 with fail
   refine RL hS ?_
   clear hS
   refine MV ?_
   refine MV ?_
   refine MF (v := .int .i64 ((J4 l).length : Int)) (fun W hS => J12 (hS.sl (i := 1) rfl) rfl rfl) ?_
   refine MW ?_ (v := .bool false) (hv := by intro W; first | (go_simp; done) | (go_simp; (try simp only [hpl]); omega))
   refine MZ fun W hS => ?_
   go_upto_region 33 with fail
   refine RL hS ?_
   clear hS
   refine MO (m := []) (n := 0) (z := #[]) ?_
   intro V58
   refine MV ?_
   refine MZ fun W hS => ?_
   go_wp2_with fail
   go_loopw [18, 19] (fun sv ii wr => ∃ (i : Nat) (bv : Value), (i ≤ 8) ∧ (bv = sv) ∧ (ii = .int .i64 (i : Int)) ∧ SH [] w wr [.o bv (wb4 (Y3 (J4 l) (nb4 l.length)) (4 * i)), .b J9h (J0 .i64 8 (Y3 (J4 l) (nb4 l.length))) 99])
    (fun sv ii _ => 8 - (intOf ii).toNat)
   case atStart => exact ⟨0, _, Nat.zero_le _, rfl, rfl, (hS.pick [0, 1])⟩
   clear hS
   case round =>
    obtain ⟨i, bv, hi, rfl, rfl, hS⟩ := hrel
    by_cases h8 : i < 8
    ·
     have _f := h8
     go_upto_region 35 with fail
     refine RL hS ?_
     clear hS
     refine MV ?_
     refine MW ?_ (v := .bool true)
     refine MZ fun W hS => ?_
     go_upto_region 37 with fail
     refine RX 20 hS ?_
     clear hS
     refine MV ?_
     refine MV ?_
     refine MW ?_ (v := .pointer (some ⟨J9h, 0 + i, none⟩)) (hv := fun _ => J5 (m := 8) (by decide) (by omega) Tryz.underlying99 (by kernel_rfl) rfl rfl rfl)
     refine MG 1 ?_ (j := 0 + i) (v := .int .i64 ((Y3 (J4 l) (nb4 l.length)) i)) (hj := by rw [Nat.zero_add]; exact J6 _ _ _ _ (by omega))
     refine MW ?_ (v := .int .i64 (sr4 (Y3 (J4 l) (nb4 l.length) i) 24)) (hv := by intro W; exact J0j (n := 24) (by decide) rfl rfl rfl)
     refine MW ?_ (v := .int .u8 ((bo4 (Y3 (J4 l) (nb4 l.length)) (4 * i + 0)).toNat : Int)) (hv := by intro W; rw [← Q0t _ i 0 (by decide)]; exact J19 rfl rfl)
     refine MV ?_
     refine MW ?_ (v := .pointer (some ⟨J9h, 0 + i, none⟩)) (hv := fun _ => J5 (m := 8) (by decide) (by omega) Tryz.underlying99 (by kernel_rfl) rfl rfl rfl)
     refine MG 1 ?_ (j := 0 + i) (v := .int .i64 ((Y3 (J4 l) (nb4 l.length)) i)) (hj := by rw [Nat.zero_add]; exact J6 _ _ _ _ (by omega))
     refine MW ?_ (v := .int .i64 (sr4 (Y3 (J4 l) (nb4 l.length) i) 16)) (hv := by intro W; exact J0j (n := 16) (by decide) rfl rfl rfl)
     refine MW ?_ (v := .int .u8 ((bo4 (Y3 (J4 l) (nb4 l.length)) (4 * i + 1)).toNat : Int)) (hv := by intro W; rw [← Q0t _ i 1 (by decide)]; exact J19 rfl rfl)
     refine MV ?_
     refine MW ?_ (v := .pointer (some ⟨J9h, 0 + i, none⟩)) (hv := fun _ => J5 (m := 8) (by decide) (by omega) Tryz.underlying99 (by kernel_rfl) rfl rfl rfl)
     refine MG 1 ?_ (j := 0 + i) (v := .int .i64 ((Y3 (J4 l) (nb4 l.length)) i)) (hj := by rw [Nat.zero_add]; exact J6 _ _ _ _ (by omega))
     refine MW ?_ (v := .int .i64 (sr4 (Y3 (J4 l) (nb4 l.length) i) 8)) (hv := by intro W; exact J0j (n := 8) (by decide) rfl rfl rfl)
     refine MW ?_ (v := .int .u8 ((bo4 (Y3 (J4 l) (nb4 l.length)) (4 * i + 2)).toNat : Int)) (hv := by intro W; rw [← Q0t _ i 2 (by decide)]; exact J19 rfl rfl)
     refine MV ?_
     refine MW ?_ (v := .pointer (some ⟨J9h, 0 + i, none⟩)) (hv := fun _ => J5 (m := 8) (by decide) (by omega) Tryz.underlying99 (by kernel_rfl) rfl rfl rfl)
     refine MG 1 ?_ (j := 0 + i) (v := .int .i64 ((Y3 (J4 l) (nb4 l.length)) i)) (hj := by rw [Nat.zero_add]; exact J6 _ _ _ _ (by omega))
     refine MW ?_ (v := .int .u8 ((bo4 (Y3 (J4 l) (nb4 l.length)) (4 * i + 3)).toNat : Int)) (hv := by intro W; rw [← Q0t _ i 3 (by decide), show sr4 (Y3 (J4 l) (nb4 l.length) i) (8 * (3 - 3)) = Y3 (J4 l) (nb4 l.length) i from V41 _]; exact J19 rfl rfl)
     refine MZt ?_
     refine MO (m := [bo4 (Y3 (J4 l) (nb4 l.length)) (4 * i + 0), bo4 (Y3 (J4 l) (nb4 l.length)) (4 * i + 1), bo4 (Y3 (J4 l) (nb4 l.length)) (4 * i + 2), bo4 (Y3 (J4 l) (nb4 l.length)) (4 * i + 3)]) (n := 4) (z := #[.int .u8 ((bo4 (Y3 (J4 l) (nb4 l.length)) (4 * i + 0)).toNat : Int), .int .u8 ((bo4 (Y3 (J4 l) (nb4 l.length)) (4 * i + 1)).toNat : Int), .int .u8 ((bo4 (Y3 (J4 l) (nb4 l.length)) (4 * i + 2)).toNat : Int), .int .u8 ((bo4 (Y3 (J4 l) (nb4 l.length)) (4 * i + 3)).toNat : Int)]) ?_
     intro V59
     refine MA 1 (xs := (wb4 (Y3 (J4 l) (nb4 l.length)) (4 * i))) (ys := [bo4 (Y3 (J4 l) (nb4 l.length)) (4 * i + 0), bo4 (Y3 (J4 l) (nb4 l.length)) (4 * i + 1), bo4 (Y3 (J4 l) (nb4 l.length)) (4 * i + 2), bo4 (Y3 (J4 l) (nb4 l.length)) (4 * i + 3)]) (fun W hS => (hS.osl (i := 0) rfl)) (by first | omega | (simp only [List.length_append, List.length_cons, List.length_nil, List.length_replicate, J0u]; omega)) ?_
     intro Y48
     refine MV ?_
     refine MZn fun W hS => ?_
     go_wp2
     go_roundw
     case rel => exact ⟨i + 1, Y48, by omega, rfl, by go_num, (by rw [← Z6r]; exact (hS.pick [1, 2]))⟩
     case measure => simp [intOf]; omega
    have _f := h8
    obtain rfl : i = 8 := by omega
    go_upto_region 35 with fail
    refine RL hS ?_
    clear hS
    refine MV ?_
    refine MW ?_ (v := .bool false)
    refine MZ fun W hS => ?_
    go_upto_region 38 with fail
    refine RL hS ?_
    clear hS
    refine MV ?_
    refine MF (v := str (wb4 (Y3 (J4 l) (nb4 l.length)) (4 * 8))) (fun W hS => J6u (hS.osl (i := 0) rfl) rfl rfl) ?_
    refine MV ?_
    refine MZ fun W hS => ?_
    go_wp2
    exact bodyPost_ret (v := str (wb4 (Y3 (J4 l) (nb4 l.length)) (4 * 8))) (by simp only [results, Tryz.results15]; go_simp) rfl ⟨rfl, hS.ext⟩
end Go.Proofs.YtejkmhgkkibafaaGreatDoor
