/- Contracts and plain laws that superChecks_holds rests on. Conditions: the variables' cells hold the numbers of the program's text. -/
import Derived.Test.YtejkmhgkkibafaaGreatDoorJ32
import Derived.Test.YtejkmhgkkibafaaGreatDoorJ6
import Derived.Test.YtejkmhgkkibafaaGreatDoorJ8
import Derived.Test.YtejkmhgkkibafaaGreatDoorJ26
import Derived.Test.YtejkmhgkkibafaaGreatDoorJ30
open Go.RowKit
set_option maxRecDepth 100000
set_option linter.unusedSimpArgs false
set_option linter.unusedVariables false
namespace Go.Proofs.YtejkmhgkkibafaaGreatDoor
section
set_option maxHeartbeats 3000000
attribute [local irreducible] wpList U0 wpX
def eI (n : Int) : List UInt8 := be8 (n % 18446744073709551616).toNat
theorem K8 (n : Int) : (eI n).length = 8 := rfl
def by8 (X j : Nat) : UInt8 := u8 (X / 2 ^ (8 * (7 - j)))
theorem Q88 (X : Nat) : ∀ {j : Nat}, j < 8 → (be8 X).take (j + 1) = (be8 X).take j ++ [by8 X j]
 | 0, _ => rfl
 | 1, _ => rfl
 | 2, _ => rfl
 | 3, _ => rfl
 | 4, _ => rfl
 | 5, _ => rfl
 | 6, _ => rfl
 | 7, _ => by unfold by8; rw [show 2 ^ (8 * (7 - 7)) = 1 from rfl, Nat.div_one]; rfl
 | j + 8, h => absurd h (by omega)
theorem Q89 {a : Act} {o : Oper} {x y : Operand} {t t' : TypeId} {W : World} {p n : Nat} {k : IntKind} (hn : n ≤ 64) (ho : o.op = .binOp .shr t x y t') (hx : a.eval x = .int .u64 (p : Int)) (hy : a.eval y = .int k (n : Int)) : (execOp a.eval o).run Tryz.prog W = .ok (.value (.int .u64 ((p / 2 ^ n : Nat) : Int))) W := by
 have h2 : min ((n : Int)).toNat IntKind.u64.bits = n := by rw [Int.toNat_natCast]; exact Nat.min_eq_left hn
 have e : (p : Int) / 2 ^ n = ((p / 2 ^ n : Nat) : Int) := by rw [Int.natCast_ediv, Int.natCast_pow]; rfl
 have : (execOp a.eval o).run Tryz.prog W = .ok (.value (.int .u64 ((p : Int) / 2 ^ n))) W := by
  simp only [execOp, ho, hx, hy, eqGuard, binOp, Sem.run_bind]
  simp [Op.shift, h2, go_sem, Sem.run_bind]
 rw [this, e]
theorem Z25 {a : Act} {o : Oper} {x : Operand} {s t : TypeId} {W : World} {p : Nat} (ho : o.op = .convert s t x) (hx : a.eval x = .int .u64 (p : Int)) (hs : Tryz.prog.underlying s = some (.int .u64)) (ht : Tryz.prog.underlying t = some (.int .u8)) : (execOp a.eval o).run Tryz.prog W = .ok (.value (.int .u8 ((u8 p).toNat : Int))) W := by
 rw [J8r, ← IntKind.wrap_u8]
 simp only [execOp, ho, hx, Sem.run_bind]
 simp [hs, ht, go_sem, Sem.run_bind]
structure Mb where
 u : Value
 id : List UInt8
 gone : Bool
 ep : Int
 link : Nat
abbrev mbF (m : Mb) : Array Value := agF [.c m.u, .c (.bool m.gone), .c (.int .i64 m.ep), .a 32 m.link]
theorem lA {α : Type} {l m : List α} : (l ++ m).length = l.length + m.length := List.length_append
theorem lM {α β : Type} {f : α → β} {l : List α} : (l.map f).length = l.length := List.length_map _
theorem lT {α : Type} {i : Nat} {l : List α} : (l.take i).length = min i l.length := List.length_take
theorem lD {α : Type} {i : Nat} {l : List α} : (l.drop i).length = l.length - i := List.length_drop
theorem lC {α : Type} {a : α} {l : List α} : (a :: l).length = l.length + 1 := rfl
theorem lN {α : Type} : ([] : List α).length = 0 := rfl
def kTx (l : List UInt8) : List UInt8 := [5] ++ l
def vTx (m : Mb) : List UInt8 := if m.gone = true then [7] else [6] ++ eI m.ep ++ lb 32 m.link
def sTx (e : Int) (r : Nat) : List UInt8 := [8] ++ eI e ++ lb 32 r
theorem V9 (l : List UInt8) : (kTx l).length = 1 + l.length := by unfold kTx; simp; omega
theorem V5 (e : Int) (r : Nat) : (sTx e r).length = 41 := by unfold sTx; simp [K8, J8]
theorem Y2k (m : Mb) : (vTx m).length ≤ 41 := by unfold vTx; split <;> simp [K8, J8]

theorem Z4e (n : Int) (X : Nat) (hx : n % 18446744073709551616 = (X : Int)) (w : World) :
  Calls Tryz.prog 47 #[.int .i64 n] w fun e w' => ∃ u, e = .returned u ∧ SH [] w w' [.o u (be8 X)] := by
 have G : IntKind.wrap .u64 n = (X : Int) := by rw [IntKind.wrap_u64]; exact hx
 have hS := SH.nil [] w
 go_enter Tryz.func47, Tryz.ntmps47
 have hS := hS.onil rfl
 go_wp2_with fail
 go_loopw [3, 4] (fun uv kk wr => ∃ (j : Nat) (sv : Value), (j ≤ 8) ∧ (sv = uv) ∧ (kk = .int .i64 ((7 : Int) - (j : Int))) ∧ SH [] w wr [.o sv (List.take j (be8 X))])
  (fun uv kk _ => (intOf kk + 1).toNat)
 case atStart => exact ⟨0, _, Nat.zero_le _, rfl, rfl, hS⟩
 clear hS
 case round =>
  obtain ⟨j, sv, hj, rfl, rfl, hS⟩ := hrel
  by_cases D : j < 8
  ·
   go_upto_region 3 with fail
   refine RL hS ?_
   clear hS
   refine MV ?_
   refine MW ?_ (v := .bool true) (hv := by intro W; go_simp; first | done | omega)
   refine MZ fun W hS => ?_
   go_upto_region 5 with fail
   refine RL hS ?_
   clear hS
   refine MV ?_
   refine MV ?_
   refine MW ?_ (v := .int .u64 (X : Int)) (hv := by intro W; go_simp; (try simp only [G]))
   refine MV ?_
   refine MW ?_ (v := .int .i64 ((8 * (7 - j) : Nat) : Int)) (hv := by intro W; go_simp; (try simp only [IntKind.wrap_i64]); omega)
   refine MW ?_ (v := .int .u64 ((X / 2 ^ (8 * (7 - j)) : Nat) : Int)) (hv := by intro W; exact Q89 (by omega) rfl rfl rfl)
   refine MW ?_ (v := .int .u8 ((by8 X j).toNat : Int)) (hv := by intro W; exact Z25 rfl rfl Tryz.underlying71 Tryz.underlying5)
   refine MO (m := [by8 X j]) (n := 1) (z := #[.int .u8 ((by8 X j).toNat : Int)]) ?_
   intro M
   refine MA 1 (xs := (List.take j (be8 X))) (ys := [by8 X j]) (fun W hS => (hS.osl (i := 0) rfl)) (by first | omega | (simp only [lA, lM, lT, lD, lC, lN, J8, K8, V9, V5]; omega)) ?_
   intro J
   refine MV ?_
   refine MZ fun W hS => ?_
   go_wp2
   go_roundw
   case rel => exact ⟨j + 1, J, by omega, rfl, by rw [show (7 : Int) - ((j + 1 : Nat) : Int) = 7 - (j : Int) - 1 by omega], (by rw [Q88 X D]; exact (hS.pick [1]))⟩
   case measure => simp [intOf]; omega
  obtain rfl : j = 8 := by omega
  go_upto_region 3 with fail
  refine RL hS ?_
  clear hS
  refine MV ?_
  refine MW ?_ (v := .bool false) (hv := by intro W; go_simp; first | done | omega)
  refine MZ fun W hS => ?_
  go_wp2
  exact bodyPost_ret (v := sv) (by simp only [results, Tryz.results47]; go_simp) rfl ⟨_, rfl, hS.pick [0]⟩
theorem Z8u (n : Int) (X : Nat) (hx : n % 18446744073709551616 = (X : Int)) (w : World) :
  Calls Tryz.prog 48 #[.int .i64 n] w fun e w' => K7 (str (be8 X)) w w' e := by
 have G : IntKind.wrap .u64 n = (X : Int) := by rw [IntKind.wrap_u64]; exact hx
 have hS := SH.nil [] w
 go_enter Tryz.func48, Tryz.ntmps48
 go_wp2_with fail
 go_loopw [3, 4] (fun uv kk wr => ∃ (j : Nat), (j ≤ 8) ∧ (uv = str (List.take j (be8 X))) ∧ (kk = .int .i64 ((56 : Int) - 8 * (j : Int))) ∧ SH [] w wr [])
  (fun uv kk _ => (intOf kk + 8).toNat)
 case atStart => exact ⟨0, Nat.zero_le _, rfl, rfl, hS⟩
 clear hS
 case round =>
  obtain ⟨j, hj, rfl, rfl, hS⟩ := hrel
  by_cases D : j < 8
  ·
   go_upto_region 3 with fail
   refine RL hS ?_
   clear hS
   refine MV ?_
   refine MW ?_ (v := .bool true) (hv := by intro W; go_simp; first | done | omega)
   refine MZ fun W hS => ?_
   go_upto_region 5 with fail
   refine RL hS ?_
   clear hS
   refine MV ?_
   refine MV ?_
   refine MW ?_ (v := .int .u64 (X : Int)) (hv := by intro W; go_simp; (try simp only [G]))
   refine MW ?_ (v := .int .i64 ((8 * (7 - j) : Nat) : Int)) (hv := by intro W; go_simp; omega)
   refine MW ?_ (v := .int .u64 ((X / 2 ^ (8 * (7 - j)) : Nat) : Int)) (hv := by intro W; exact Q89 (by omega) rfl rfl rfl)
   refine MW ?_ (v := .int .u8 ((by8 X j).toNat : Int)) (hv := by intro W; exact Z25 rfl rfl Tryz.underlying71 Tryz.underlying5)
   refine MO (m := [by8 X j]) (n := 1) (z := #[.int .u8 ((by8 X j).toNat : Int)]) ?_
   intro J
   refine MF (v := str [by8 X j]) (fun W hS => J2j (hS.osl (i := 0) rfl) rfl rfl) ?_
   refine MW ?_ (v := str ((List.take j (be8 X)) ++ [by8 X j])) (hv := fun _ => J8x (l := (List.take j (be8 X))) (m := [by8 X j]) rfl rfl rfl (by first | omega | (simp only [lA, lM, lT, lD, lC, lN, J8, K8, V9, V5]; omega)))
   refine MV ?_
   refine MZ fun W hS => ?_
   go_wp2
   go_roundw
   case rel => exact ⟨j + 1, by omega, by rw [Q88 X D], by rw [show (56 : Int) - 8 * ((j + 1 : Nat) : Int) = 56 - 8 * (j : Int) - 8 by omega], (hS.pick [])⟩
   case measure => simp [intOf]; omega
  obtain rfl : j = 8 := by omega
  go_upto_region 3 with fail
  refine RL hS ?_
  clear hS
  refine MV ?_
  refine MW ?_ (v := .bool false) (hv := by intro W; go_simp; first | done | omega)
  refine MZ fun W hS => ?_
  go_wp2
  exact bodyPost_ret (v := str (List.take 8 (be8 X))) (by simp only [results, Tryz.results48]; first | (go_simp; done) | (go_simp; rfl)) rfl ⟨rfl, hS.ext⟩
theorem Y2l (n : Int) (w : World) : Calls Tryz.prog 48 #[.int .i64 n] w fun e w' => K7 (str (eI n)) w w' e := Z8u n _ (by omega) w
theorem J83 (n : Int) (w : World) : Calls Tryz.prog 47 #[.int .i64 n] w fun e w' => ∃ u, e = .returned u ∧ SH [] w w' [.o u (eI n)] := Z4e n _ (by omega) w
attribute [local irreducible] eI be8 hs4 lb
theorem Q9r {v : Value} {l : List UInt8} (w : World) (hid : Sl w v l) (hl : l.length ≤ 100000000) :
  Calls Tryz.prog 11 #[v] w fun e w' => ∃ u, e = .returned u ∧ SH [] w w' [.o u (kTx l)] := by
 have hS := SH.nil [] w
 go_enter Tryz.func11, Tryz.ntmps11
 go_upto_region 1 with fail
 refine RL hS ?_
 clear hS
 refine MO (m := [5]) (n := 1) (z := #[.int .u8 5]) ?_
 intro G
 refine MV ?_
 refine MA 0 (xs := [5]) (ys := l) (fun W hS => (J5j hid hS.ext)) (by first | omega | (simp only [lA, lM, lT, lD, lC, lN, J8, K8, V9, V5]; omega)) ?_
 intro D
 refine MV ?_
 refine MZ fun W hS => ?_
 go_wp2
 exact bodyPost_ret (v := D) (by simp only [results, Tryz.results11]; go_simp) rfl ⟨_, rfl, (hS.pick [0])⟩
theorem Y8s {q : Prop} {v : Value} {l : List UInt8} (w : World) (hG : GT q w) (hid : Sl w v l) (hl : l.length ≤ 100000000) :
  Calls Tryz.prog 8 #[v] w fun e w' => K7 (.agg (J0 .u8 32 (Q3 (hs4 (kTx l))))) w w' e := by
 have hS := SH.nil [] w
 go_enter Tryz.func8, Tryz.ntmps8
 go_upto_region 0 with fail
 refine RL hS ?_
 clear hS
 refine MN (z := J0 .u8 32 (Q3 0)) (t := 31) ?_
 intro X5
 refine MZ fun W hS => ?_
 go_upto_region 1 with fail
 refine RL hS ?_
 clear hS
 refine MV ?_
 refine ME (V := fun v => v) (fun W hS => J58 hS (Q9r W (J5j hid hS.ext) (by first | omega | (simp only [lA, lM, lT, lD, lC, lN, J8, K8, V9, V5]; omega))) (fun _ => ⟨rfl, rfl⟩)) ?_
 intro G
 refine MB (z := #[G]) (t := 22) (n := 1) (c := 1) ?_ (hr := fun W hS => J2k [G] rfl rfl (vsc (K6 (hS.osl (i := 0) rfl)).1 vs0) Tryz.underlying113 (by kernel_rfl) (by kernel_rfl) rfl (by decide) (by decide))
 intro M
 obtain ⟨U1, J⟩ := V3 (hs4 ((kTx l)))
 have D := Lib.hid J
 clear J
 refine MC (v := .agg (J0 .u8 32 (Q3 U1))) (fun W hS => J5a D.out [kTx l] (some ⟨M, 0, none⟩) 1 (by simp only [List.flatten_cons, List.flatten_nil, List.append_nil, List.nil_append, List.append_assoc, List.cons_append]) (by first | omega | (simp only [lA, lM, lT, lD, lC, lN, J8, K8, V9, V5]; omega)) (by simp) W (J1z (hS.blk (i := 0) rfl) (pvc (hS.osl (i := 1) rfl) pv0)) (J2b hG.1 hS.ext)) ?_
 refine MR 2 ?_ 
 refine MZ fun W hS => ?_
 have e_ := D.out
 subst e_
 go_wp2
 exact bodyPost_ret (Z6 rfl rfl (hS.blk (i := 2) rfl) (by kernel_rfl) (by rw [J1]; kernel_rfl)) rfl ⟨rfl, hS.ext⟩
theorem Q64 {m : Mb} (w : World) (hid : Sl w m.u m.id) :
  Calls Tryz.prog 13 #[.agg (mbF m)] w fun e w' => ∃ u, e = .returned u ∧ SH [] w w' [.o u (vTx m)] := by
 have S := K6 hid
 have hS := SH.nil [] w
 go_enter Tryz.func13, Tryz.ntmps13
 go_upto_region 0 with fail
 refine RL hS ?_
 clear hS
 refine MN (z := agF [.c m.u, .c (.bool m.gone), .c (.int .i64 m.ep), .a 32 m.link]) (t := 25) ?_
 intro N
 refine MV ?_
 refine MZ fun W hS => ?_
 by_cases hg : m.gone = true
 ·
  go_upto_region 1 with fail
  refine RL hS ?_
  clear hS
  refine MV ?_
  refine MG 0 ?_ (v := .bool true) (hj := ((Y3 (off := 1) 1).trans (by rw [hg])))
  refine MZ fun W hS => ?_
  go_upto_region 2 with fail
  refine RL hS ?_
  clear hS
  refine MO (m := [7]) (n := 1) (z := #[.int .u8 7]) ?_
  intro G
  refine MV ?_
  refine MZ fun W hS => ?_
  go_wp2
  exact bodyPost_ret (v := G) (by simp only [results, Tryz.results13]; go_simp) rfl ⟨_, rfl, by unfold vTx; (first | rw [if_pos hg] | rw [if_neg hg]); exact (hS.pick [0])⟩
 have M : m.gone = false := by simpa using hg
 go_upto_region 1 with fail
 refine RL hS ?_
 clear hS
 refine MV ?_
 refine MG 0 ?_ (v := .bool false) (hj := ((Y3 (off := 1) 1).trans (by rw [M])))
 refine MZ fun W hS => ?_
 go_upto_region 3 with fail
 refine RTh (.q 1 (.q 2 (.q 5 (.q 6 (.b 0 (.e 3 (.e 4 (.e 7 (.q 8 .z)))) 3 (.e 0 (.e 4 (.e 7 (.q 8 .z))))))))) hS ?_
 clear hS
 refine TV ?_
 refine TG 0 ?_ (v := .int .i64 m.ep) (hj := (Y3 (off := 2) 2))
 refine TV ?_
 refine TW ?_ (v := .slice (some ⟨N, 3, none⟩) 32 32)
 refine TB (fun _ h => h) ?_ ?_
 ·
  refine MO (m := [6]) (n := 1) (z := #[.int .u8 6]) ?_
  intro R
  refine TNp [1] [0] ?_
  refine TE (fun _ h => h.pick [1]) ?_
  refine ME (V := fun v => v) (fun W hS => J58 hS (J83 m.ep W) (fun _ => ⟨rfl, rfl⟩)) ?_
  intro Z
  refine TNp [0, 2] [1] ?_
  refine TE (fun _ h => h.pick [0, 2]) ?_
  refine MA 1 (xs := [6]) (ys := (eI m.ep)) (fun W hS => (hS.osl (i := 0) rfl)) (by first | omega | (simp only [lA, lM, lT, lD, lC, lN, J8, K8, V9, V5]; omega)) ?_
  intro X
  refine TNp [0, 2] [0, 1] ?_
  refine TE (fun _ h => h.pick [0, 2]) ?_
  refine MA 1 (xs := ([6] ++ (eI m.ep))) (ys := (lb 32 m.link)) (fun W hS => (K0 (V := m.link) (n := 32) (off := 3) (c := 32) (hS.blk (i := 2) rfl) (J1g (off := 3) 3) (by decide) (by decide))) (by first | omega | (simp only [lA, lM, lT, lD, lC, lN, J8, K8, V9, V5]; omega)) ?_
  intro J
  refine TNp [0, 1, 2] [0, 2] ?_
  refine TV ?_
  refine TZ (fun _ h => h) fun W hS => ?_
  go_wp2
  exact bodyPost_ret (v := J) (by simp only [results, Tryz.results13]; go_simp) rfl ⟨_, rfl, by unfold vTx; (first | rw [if_pos hg] | rw [if_neg hg]); exact (hS.pick [1])⟩
 refine ME (V := fun v => v) (fun W hS => J58 hS (J83 m.ep W) (fun _ => ⟨rfl, rfl⟩)) ?_
 intro T
 refine TNp [0, 1] [1] ?_
 refine TE (fun _ h => h) ?_
 refine MO (m := [6]) (n := 1) (z := #[.int .u8 6]) ?_
 intro Y
 refine TNp [1, 2] [0, 1] ?_
 refine TE (fun _ h => h.pick [1, 2]) ?_
 refine MA 0 (xs := [6]) (ys := (eI m.ep)) (fun W hS => (hS.osl (i := 1) rfl)) (by first | omega | (simp only [lA, lM, lT, lD, lC, lN, J8, K8, V9, V5]; omega)) ?_
 intro U
 refine TNp [1, 2] [0, 1] ?_
 refine TE (fun _ h => h.pick [1, 2]) ?_
 refine MA 0 (xs := ([6] ++ (eI m.ep))) (ys := (lb 32 m.link)) (fun W hS => (K0 (V := m.link) (n := 32) (off := 3) (c := 32) (hS.blk (i := 2) rfl) (J1g (off := 3) 3) (by decide) (by decide))) (by first | omega | (simp only [lA, lM, lT, lD, lC, lN, J8, K8, V9, V5]; omega)) ?_
 intro D
 refine TNp [0, 1, 2] [1, 2] ?_
 refine TV ?_
 refine TZ (fun _ h => h) fun W hS => ?_
 go_wp2
 exact bodyPost_ret (v := D) (by simp only [results, Tryz.results13]; go_simp) rfl ⟨_, rfl, by unfold vTx; (first | rw [if_pos hg] | rw [if_neg hg]); exact (hS.pick [0])⟩
theorem Z8v {q : Prop} {m : Mb} (w : World) (hG : GT q w) (hid : Sl w m.u m.id) :
  Calls Tryz.prog 9 #[.agg (mbF m)] w fun e w' => K7 (.agg (J0 .u8 32 (Q3 (hs4 (vTx m))))) w w' e := by
 have R := K6 hid
 have S := Y2k m
 have hS := SH.nil [] w
 go_enter Tryz.func9, Tryz.ntmps9
 go_upto_region 0 with fail
 refine RL hS ?_
 clear hS
 refine MN (z := agF [.c m.u, .c (.bool m.gone), .c (.int .i64 m.ep), .a 32 m.link]) (t := 25) ?_
 intro T
 refine MN (z := J0 .u8 32 (Q3 0)) (t := 23) ?_
 intro N
 refine MZ fun W hS => ?_
 go_upto_region 1 with fail
 refine RL hS ?_
 clear hS
 refine ML 1 ?_ (hs := by rw [J4]; kernel_rfl)
 refine ME (V := fun v => v) (fun W hS => J58 hS (Q64 W (J5j hid hS.ext)) (fun _ => ⟨rfl, rfl⟩)) ?_
 intro G
 refine MB (z := #[G]) (t := 22) (n := 1) (c := 1) ?_ (hr := fun W hS => J2k [G] rfl rfl (vsc (K6 (hS.osl (i := 0) rfl)).1 vs0) Tryz.underlying113 (by kernel_rfl) (by kernel_rfl) rfl (by decide) (by decide))
 intro M
 obtain ⟨U1, J⟩ := V3 (hs4 ((vTx m)))
 have D := Lib.hid J
 clear J
 refine MC (v := .agg (J0 .u8 32 (Q3 U1))) (fun W hS => J5a D.out [vTx m] (some ⟨M, 0, none⟩) 1 (by simp only [List.flatten_cons, List.flatten_nil, List.append_nil, List.nil_append, List.append_assoc, List.cons_append]) (by first | omega | (simp only [lA, lM, lT, lD, lC, lN, J8, K8, V9, V5]; omega)) (by simp) W (J1z (hS.blk (i := 0) rfl) (pvc (hS.osl (i := 1) rfl) pv0)) (J2b hG.1 hS.ext)) ?_
 refine MR 2 ?_ 
 refine MZ fun W hS => ?_
 have e_ := D.out
 subst e_
 go_wp2
 exact bodyPost_ret (Z6 rfl rfl (hS.blk (i := 2) rfl) (by kernel_rfl) (by rw [J1]; kernel_rfl)) rfl ⟨rfl, hS.ext⟩
theorem Q1d (n : Int) (r : Nat) (w : World) :
  Calls Tryz.prog 16 #[.int .i64 n, .agg (J0 .u8 32 (Q3 r))] w fun e w' => ∃ u, e = .returned u ∧ SH [] w w' [.o u (sTx n r)] := by
 have hS := SH.nil [] w
 go_enter Tryz.func16, Tryz.ntmps16
 go_upto_region 0 with fail
 refine RL hS ?_
 clear hS
 refine MN (z := J0 .u8 32 (Q3 r)) (t := 23) ?_
 intro J
 refine MV ?_
 refine MZ fun W hS => ?_
 go_upto_region 1 with fail
 refine RTh (.q 1 (.q 4 (.b 0 (.e 2 (.e 3 (.e 5 (.q 6 .z)))) 2 (.e 0 (.e 3 (.e 5 (.q 6 .z))))))) hS ?_
 clear hS
 refine TV ?_
 refine TW ?_ (v := .slice (some ⟨J, 0, none⟩) 32 32)
 refine TB (fun _ h => h) ?_ ?_
 ·
  refine MO (m := [8]) (n := 1) (z := #[.int .u8 8]) ?_
  intro R
  refine TNp [1] [0] ?_
  refine TE (fun _ h => h.pick [1]) ?_
  refine ME (V := fun v => v) (fun W hS => J58 hS (J83 n W) (fun _ => ⟨rfl, rfl⟩)) ?_
  intro N
  refine TNp [0, 2] [1] ?_
  refine TE (fun _ h => h.pick [0, 2]) ?_
  refine MA 1 (xs := [8]) (ys := (eI n)) (fun W hS => (hS.osl (i := 0) rfl)) (by first | omega | (simp only [lA, lM, lT, lD, lC, lN, J8, K8, V9, V5]; omega)) ?_
  intro T
  refine TNp [0, 2] [0, 1] ?_
  refine TE (fun _ h => h.pick [0, 2]) ?_
  refine MA 1 (xs := ([8] ++ (eI n))) (ys := (lb 32 r)) (fun W hS => (K0 (V := r) (n := 32) (off := 0) (c := 32) (hS.blk (i := 2) rfl) ap0 (by decide) (by decide))) (by first | omega | (simp only [lA, lM, lT, lD, lC, lN, J8, K8, V9, V5]; omega)) ?_
  intro G
  refine TNp [0, 1, 2] [0, 2] ?_
  refine TV ?_
  refine TZ (fun _ h => h) fun W hS => ?_
  go_wp2
  exact bodyPost_ret (v := G) (by simp only [results, Tryz.results16]; go_simp) rfl ⟨_, rfl, (hS.pick [1])⟩
 refine ME (V := fun v => v) (fun W hS => J58 hS (J83 n W) (fun _ => ⟨rfl, rfl⟩)) ?_
 intro U
 refine TNp [0, 1] [1] ?_
 refine TE (fun _ h => h) ?_
 refine MO (m := [8]) (n := 1) (z := #[.int .u8 8]) ?_
 intro M
 refine TNp [1, 2] [0, 1] ?_
 refine TE (fun _ h => h.pick [1, 2]) ?_
 refine MA 0 (xs := [8]) (ys := (eI n)) (fun W hS => (hS.osl (i := 1) rfl)) (by first | omega | (simp only [lA, lM, lT, lD, lC, lN, J8, K8, V9, V5]; omega)) ?_
 intro S
 refine TNp [1, 2] [0, 1] ?_
 refine TE (fun _ h => h.pick [1, 2]) ?_
 refine MA 0 (xs := ([8] ++ (eI n))) (ys := (lb 32 r)) (fun W hS => (K0 (V := r) (n := 32) (off := 0) (c := 32) (hS.blk (i := 2) rfl) ap0 (by decide) (by decide))) (by first | omega | (simp only [lA, lM, lT, lD, lC, lN, J8, K8, V9, V5]; omega)) ?_
 intro D
 refine TNp [0, 1, 2] [1, 2] ?_
 refine TV ?_
 refine TZ (fun _ h => h) fun W hS => ?_
 go_wp2
 exact bodyPost_ret (v := D) (by simp only [results, Tryz.results16]; go_simp) rfl ⟨_, rfl, (hS.pick [0])⟩
theorem Y2n (n : Int) (r : Nat) (w : World) :
  Calls Tryz.prog 17 #[.int .i64 n, str (lb 32 r)] w fun e w' => K7 (str (sTx n r)) w w' e := by
 have hS := SH.nil [] w
 go_enter Tryz.func17, Tryz.ntmps17
 go_upto_region 1 with fail
 refine RL hS ?_
 clear hS
 refine MV ?_
 refine MC (v := str (eI n)) (fun W hS => Y2l n W) ?_
 refine MW ?_ (v := str ([8] ++ (eI n))) (hv := fun _ => J8x (l := [8]) (m := (eI n)) rfl rfl rfl (by first | omega | (simp only [lA, lM, lT, lD, lC, lN, J8, K8, V9, V5]; omega)))
 refine MV ?_
 refine MW ?_ (v := str (([8] ++ (eI n)) ++ (lb 32 r))) (hv := fun _ => J8x (l := ([8] ++ (eI n))) (m := (lb 32 r)) rfl rfl rfl (by first | omega | (simp only [lA, lM, lT, lD, lC, lN, J8, K8, V9, V5]; omega)))
 refine MV ?_
 refine MZ fun W hS => ?_
 go_wp2
 exact bodyPost_ret (v := str (([8] ++ (eI n)) ++ (lb 32 r))) (by simp only [results, Tryz.results17]; go_simp) rfl ⟨rfl, hS.ext⟩
end

section
/-! ### Lists of leaves, by the document -/
end

section
/-! ### The leaves of a tree -/
/-! ### Lists, step by step -/
end

section
attribute [local irreducible] wpList U0 wpX
theorem RR.op {w : World} {u : Value} {ls : List Lf} (h : RR 64 w u (ls.map lfl)) : ∃ A c, u = .slice A ls.length c ∧ ls.length ≤ c ∧ Hid (∀ (j : Nat) (x : Lf), ls[j]? = some x → ∃ g o, A = some ⟨g, o, none⟩ ∧ ∀ (i : Nat) (v : Value), (lfl x)[i]? = some v → w.cell? ⟨g, o + j * 64 + i, none⟩ = some v) := by
 obtain ⟨A, c, h1, h2, _, h3⟩ := h
 rw [List.length_map] at h1 h2
 exact ⟨A, c, h1, h2, Lib.hid fun j x hj => h3 j (lfl x) (by rw [List.getElem?_map, hj]; rfl)⟩
end

section
set_option maxHeartbeats 3000000
attribute [local irreducible] wpList U0 wpX
end

section
attribute [local irreducible] wpList U0 wpX

end

section
set_option maxHeartbeats 3000000
attribute [local irreducible] wpList U0 wpX
attribute [local irreducible] hs4 sE sL sN

end

section
attribute [local irreducible] wpList U0 wpX
attribute [local irreducible] hs4 sE sL sN

end

section
attribute [local irreducible] wpList U0 wpX
theorem Y8p {ls : List Lf} (h : ls.length ≤ 1000) : tsz (ofT ls) < 4611686018427387904 := by have := (Q9q ls.length ls).1; rw [List.take_length] at this; omega
theorem Y8q {ls : List Lf} (h : ls.length ≤ 1000) : cnt (ofT ls) < 2305843009213693952 := by have := (Q9q ls.length ls).2; rw [List.take_length] at this; omega
attribute [local irreducible] hs4 sE sL sN

end

section
set_option maxHeartbeats 3000000
attribute [local irreducible] wpList U0 wpX
open S8 (Kn GA kP sig vfy)
theorem Y2o (W : World) (ls : List (Nat × Nat)) : TA W (ofT (List.take 0 ls)) nlp := rfl
def mbC (m : Mb) : List Value := fcs [.c m.u, .c (.bool m.gone), .c (.int .i64 m.ep), .a 32 m.link]
theorem Q65 {ms : List Mb} : ∀ e ∈ ms.map mbC, e.length = 35 := fun e he => by
 obtain ⟨y, _, rfl⟩ := List.mem_map.1 he
 unfold mbC; rw [J57]; rfl
def mbK (ms : List Mb) (W : World) : Prop := ∀ y ∈ ms, Sl W y.u y.id ∧ y.id.length ≤ 100000000
theorem V28 {W : World} {A : Option Addr} {n c i g o : Nat} {ms : List Mb} {y : Mb} (h : RR 35 W (.slice A n c) (ms.map mbC)) (yh : ms[i]? = some y) (hA : A = some ⟨g, o, none⟩) : ∀ (j : Nat) (v : Value), (mbF y)[j]? = some v → W.cell? ⟨g, o + i * 35 + j, none⟩ = some v := fun j v hv =>
 RR.cellat h (by rw [List.getElem?_map, yh]; rfl) hA j v (by unfold mbC; rw [← Q27, Array.getElem?_toList]; exact hv)
def mkL (m : Mb) : Nat × Nat := (hs4 (kTx m.id), hs4 (vTx m))
abbrev ovT (ms : List Mb) : TR := ofT (ms.map mkL)
theorem V29 {ms : List Mb} {i : Nat} {y : Mb} (h : ms[i]? = some y) : (ms.map mkL)[i]? = some (mkL y) := by rw [List.getElem?_map, h]; rfl
theorem Y8u {q : Prop} {ms : List Mb} {i : Nat} {y : Mb} {u : Value} (h : ms[i]? = some y) (hn : ms.length ≤ 1000) (w : World) (hG : GT q w) (ht : TA w (ofT (List.take i (ms.map mkL))) u) :
  Calls Tryz.prog 87 #[u, .agg (lf (hs4 (kTx y.id)) (hs4 (vTx y)))] w fun e w' => J7m (ofT (List.take (i + 1) (ms.map mkL))) w w' e := by
 have hl : (List.take i (ms.map mkL)).length ≤ 1000 := by rw [List.length_take, List.length_map]; omega
 rw [Q87 (V29 h)]
 exact V22 (Z4t _) (Z4t _) (Y8p hl) (Y8q hl) w hG ht
attribute [local irreducible] eI be8 hs4 lb kTx vTx sTx rs ofT

theorem Y8v {q : Prop} {ms : List Mb} {v : Value} (hn : ms.length ≤ 1000) (w : World) (hG : GT q w) (hp : RR 35 w v (ms.map mbC)) (hk : mbK ms w) :
  Calls Tryz.prog 50 #[v] w fun e w' => J7m (ovT ms) w w' e := by
 obtain ⟨Ap, cp, rfl, S, N⟩ := RR.opf hp
 have hS := SH.nil [] w
 go_enter Tryz.func50, Tryz.ntmps50
 go_upto_region 2 with fail
 refine RL hS ?_
 clear hS
 refine MV ?_
 refine MV ?_
 refine MW ?_ (v := .int .i64 0)
 refine MZ fun W hS => ?_
 have hS := hS.fact (TA.holds (Y2o _ (ms.map mkL))) rfl
 go_wp2_with fail
 go_loopw [3, 8] (fun uv ii wr => ∃ (i : Nat) (u : Value), (i ≤ ms.length) ∧ (u = uv) ∧ (ii = .int .i64 (i : Int)) ∧ SH [] w wr [.t 151 (fun W => TA W (ofT (List.take i (ms.map mkL))) u)])
  (fun uv ii _ => ms.length - (intOf ii).toNat)
 case atStart => exact ⟨0, nlp, Nat.zero_le _, rfl, rfl, hS⟩
 clear hS
 case round =>
  obtain ⟨i, u, hi, rfl, rfl, hS⟩ := hrel
  by_cases D : i < ms.length
  ·
   obtain ⟨y, yh⟩ : ∃ x, ms[i]? = some x := ⟨_, List.getElem?_eq_getElem D⟩
   obtain ⟨gp, op, M, _⟩ := N.out i y yh
   have J := Lib.hid M
   clear M
   have hid := (hk y (List.mem_of_getElem? yh)).1
   have U := (hk y (List.mem_of_getElem? yh)).2
   have R := K6 hid
   go_upto_region 3 with fail
   refine RL hS ?_
   clear hS
   refine MW ?_ (v := .bool true)
   refine MZ fun W hS => ?_
   go_upto_region 4 with fail
   refine RL hS ?_
   clear hS
   refine MW ?_ (v := .pointer (some ⟨gp, op + i * 35, none⟩)) (hv := fun _ => J17 J.out D rfl rfl rfl Tryz.underlying30 (by kernel_rfl))
   refine MF (v := .agg (agF [.c y.u, .c (.bool y.gone), .c (.int .i64 y.ep), .a 32 y.link])) (fun W hS => J1j rfl rfl (fun i_ v hv => (V28 (hp.ext hS.ext) yh J.out) i_ v (by simpa using hv)) (by kernel_rfl) (by rw [J4]; kernel_rfl)) ?_
   refine MN (z := agF [.c (.slice none 0 0), .c (.bool false), .c (.int .i64 0), .a 32 0]) (t := 25) ?_
   intro V
   refine MR 0 ?_ (hz := by rw [J4]; kernel_rfl) (hs := by first | (rw [J4, J4]; rfl) | rfl) (h1 := by exact (J0a ⟨R.2, rfl, rfl, trivial⟩))
   refine MZ fun W hS => ?_
   go_upto_region 5 with fail
   refine RTh (.q 0 (.q 1 (.q 2 (.q 4 (.e 3 (.e 5 (.q 6 (.e 7 (.q 8 .z))))))))) hS ?_
   clear hS
   refine TV ?_
   refine TV ?_
   refine TG 0 ?_ (v := y.u) (hj := (Y3 (off := 0) 0))
   refine TL 0 ?_ (hs := by rw [J4]; kernel_rfl)
   refine TE (fun _ h => h) ?_
   refine MC (v := .agg (J0 .u8 32 (Q3 (hs4 (kTx y.id))))) (fun W hS => Y8s W (J08 hG hS.ext) (J5j hid hS.ext) (by first | omega | (simp only [List.length_append, List.length_map, List.length_take, List.length_drop, List.length_cons, List.length_nil, J8, K8, V9, V5]; omega))) ?_
   refine TNh (fun W hS => hS) ?_
   refine TE (fun _ h => h) ?_
   refine MC (v := .agg (J0 .u8 32 (Q3 (hs4 (vTx y))))) (fun W hS => Z8v (m := y) W (J08 hG hS.ext) (J5j hid hS.ext)) ?_
   refine TNh (fun W hS => hS) ?_
   refine TW ?_ (v := .agg (lf (hs4 (kTx y.id)) (hs4 (vTx y)))) (hv := by intro W; first | rfl | kernel_rfl)
   refine TE (fun _ h => h) ?_
   refine ME (fun W hS => J49 (T := (ofT (List.take (i + 1) (ms.map mkL)))) hS (Y8u yh hn W (J08 hG hS.ext) (hS.tt (i := 1) rfl)) rfl) ?_
   intro G
   refine TNh (fun W hS => hS.pick [1, 2]) ?_
   refine TV ?_
   refine TZ (fun _ h => h) fun W hS => ?_
   go_wp2
   go_roundw
   case rel => exact ⟨i + 1, G, by omega, rfl, by go_num, (hS.pick [0])⟩
   case measure => simp [intOf]; omega
  obtain rfl : i = ms.length := by omega
  rw [List.take_of_length_le (Nat.le_of_eq (List.length_map _))] at hS
  go_upto_region 3 with fail
  refine RL hS ?_
  clear hS
  refine MW ?_ (v := .bool false)
  refine MZ fun W hS => ?_
  go_wp2
  exact bodyPost_ret (v := u) (by simp only [results, Tryz.results50]; go_simp) rfl ⟨_, rfl, hS.ext, hS.tt (i := 0) rfl⟩
end

section
open Go.ChangeShapes Go.WideShapes Go.ChangeAt Go.RowKit Go.Deep
section
variable {H : Type} {enc : TypeId × Value → H} {W : World} {base : Nat} {sp : Nat → Bool} {held : Bool}
theorem Y0f {n : Nat} {t : TypeId} (hn : Tryz.prog.underlying t = some (.array n 5)) (hc : Tryz.prog.cellsOf t = n) {r : Reach} {b0 : Nat} {v : Value} {d : DataW H} {ps : List MemPlace} (hval : Value.okWide Tryz.prog W r b0 t v) (hd : DataW.Trod enc Tryz.prog W base sp held t v d ps) :
    ∃ N : Nat, N < 2 ^ (8 * n) ∧ v = .agg (J0 .u8 n (Q3 N)) := by
  simp only [Value.okWide, hn] at hval
  obtain ⟨cs, rfl, _⟩ := hval
  obtain ⟨D, hf⟩ := hd
  obtain ⟨N, hN, e⟩ := J9z hn hc hf
  exact ⟨N, hN, by rw [show cs = J0 .u8 n (Q3 N) from Array.toList_inj.1 e]⟩
theorem Z5z {r : Reach} {b0 : Nat} {v : Value} {d : DataW H} {ps : List MemPlace} (hval : Value.okWide Tryz.prog W r b0 23 v) (hd : DataW.Trod enc Tryz.prog W base sp held 23 v d ps) :
    ∃ N : Nat, N < 2 ^ (8 * 32) ∧ v = .agg (J0 .u8 32 (Q3 N)) := Y0f Tryz.underlying23 (by kernel_rfl) hval hd
theorem Y4g {n m X : Nat} (h : 8 * n = m) (hX : X < 2 ^ (8 * n)) : X < 2 ^ m := h ▸ hX
instance : Inhabited Mb := ⟨⟨.slice none 0 0, [], false, 0, 0⟩⟩
end
end

section
set_option maxHeartbeats 3000000
attribute [local irreducible] wpList U0 wpX
attribute [local irreducible] hs4 sE sL sN

end

section
end

section
attribute [local irreducible] wpList U0 wpX
attribute [local irreducible] hs4 sE sL sN

end

section
set_option maxHeartbeats 3000000
attribute [local irreducible] wpList U0 wpX
attribute [local irreducible] hs4 sE sL sN

end
end Go.Proofs.YtejkmhgkkibafaaGreatDoor
