/- super: a number's bytes, texts, keys and values, the program's and the document's. Conditions: the tables hold their numbers. Trees, the plain law: the tree of leaves is that of the leaves in order, however they are put. No conditions. -/
import Derived.Test.YtejkmhgkkibafaaGreatDoorJ30
import Derived.Test.YtejkmhgkkibafaaGreatDoorJ6
import Derived.Test.YtejkmhgkkibafaaGreatDoorJ9
set_option linter.unusedSimpArgs false
set_option linter.unusedVariables false
namespace Go.Proofs.YtejkmhgkkibafaaGreatDoor
section
set_option maxHeartbeats 3000000
set_option maxRecDepth 100000
open Go.RowKit
attribute [local irreducible] wpList J0k wpX
def eI (n : Int) : List UInt8 := be8 (n % 18446744073709551616).toNat
theorem V4 (n : Int) : (eI n).length = 8 := rfl
def by8 (X j : Nat) : UInt8 := u8 (X / 2 ^ (8 * (7 - j)))
theorem Z0k (X : Nat) : ∀ {j : Nat}, j < 8 → (be8 X).take (j + 1) = (be8 X).take j ++ [by8 X j]
 | 0, _ => rfl
 | 1, _ => rfl
 | 2, _ => rfl
 | 3, _ => rfl
 | 4, _ => rfl
 | 5, _ => rfl
 | 6, _ => rfl
 | 7, _ => by unfold by8; rw [show 2 ^ (8 * (7 - 7)) = 1 from rfl, Nat.div_one]; rfl
 | j + 8, h => absurd h (by omega)
theorem Z0l {a : Act} {o : Oper} {x y : Operand} {t t' : TypeId} {W : World} {p n : Nat} {k : IntKind} (hn : n ≤ 64) (ho : o.op = .binOp .shr t x y t') (hx : a.eval x = .int .u64 (p : Int)) (hy : a.eval y = .int k (n : Int)) : (execOp a.eval o).run Tryz.prog W = .ok (.value (.int .u64 ((p / 2 ^ n : Nat) : Int))) W := by
 have h2 : min ((n : Int)).toNat IntKind.u64.bits = n := by rw [Int.toNat_natCast]; exact Nat.min_eq_left hn
 have e : (p : Int) / 2 ^ n = ((p / 2 ^ n : Nat) : Int) := by rw [Int.natCast_ediv, Int.natCast_pow]; rfl
 have : (execOp a.eval o).run Tryz.prog W = .ok (.value (.int .u64 ((p : Int) / 2 ^ n))) W := by
  simp only [execOp, ho, hx, hy, eqGuard, binOp, Sem.run_bind]
  simp [Op.shift, h2, go_sem, Sem.run_bind]
 rw [this, e]
theorem Z4e {a : Act} {o : Oper} {x : Operand} {s t : TypeId} {W : World} {p : Nat} (ho : o.op = .convert s t x) (hx : a.eval x = .int .u64 (p : Int)) (hs : Tryz.prog.underlying s = some (.int .u64)) (ht : Tryz.prog.underlying t = some (.int .u8)) : (execOp a.eval o).run Tryz.prog W = .ok (.value (.int .u8 ((u8 p).toNat : Int))) W := by
 rw [J9o, ← IntKind.wrap_u8]
 simp only [execOp, ho, hx, Sem.run_bind]
 simp [hs, ht, go_sem, Sem.run_bind]
structure Mb where
 u : Value
 id : List UInt8
 gone : Bool
 ep : Int
 link : Nat
abbrev mbF (m : Mb) : Array Value := agF [.c m.u, .c (.bool m.gone), .c (.int .i64 m.ep), .a 32 m.link]
theorem lA {α : Type} {l m : List α} : (l ++ m).length = l.length + m.length := List.length_append
theorem lM {α β : Type} {f : α → β} {l : List α} : (l.map f).length = l.length := List.length_map _
theorem lT {α : Type} {i : Nat} {l : List α} : (l.take i).length = min i l.length := List.length_take
theorem lD {α : Type} {i : Nat} {l : List α} : (l.drop i).length = l.length - i := List.length_drop
theorem lC {α : Type} {a : α} {l : List α} : (a :: l).length = l.length + 1 := rfl
theorem lN {α : Type} : ([] : List α).length = 0 := rfl
def kTx (l : List UInt8) : List UInt8 := [5] ++ l
def vTx (m : Mb) : List UInt8 := if m.gone = true then [7] else [6] ++ eI m.ep ++ lb 32 m.link
def sTx (e : Int) (r : Nat) : List UInt8 := [8] ++ eI e ++ lb 32 r
theorem Y6m {m : Mb} (h : m.gone = true) : vTx m = [7] := if_pos h
theorem Y6n {m : Mb} (h : ¬ m.gone = true) : vTx m = [6] ++ eI m.ep ++ lb 32 m.link := if_neg h
theorem Y4 (l : List UInt8) : (kTx l).length = 1 + l.length := by unfold kTx; simp; omega
theorem Y5 (e : Int) (r : Nat) : (sTx e r).length = 41 := by unfold sTx; simp [V4, Q2]
theorem Z4f (m : Mb) : (vTx m).length ≤ 41 := by unfold vTx; split <;> simp [V4, Q2]

theorem Z6c (n : Int) (X : Nat) (hx : n % 18446744073709551616 = (X : Int)) (w : World) :
  Calls Tryz.prog 47 #[.int .i64 n] w fun e w' => ∃ u, e = .returned u ∧ SH [] w w' [.o u (be8 X)] := by
 have hx2 : IntKind.wrap .u64 n = (X : Int) := by rw [IntKind.wrap_u64]; exact hx
 have hS := SH.nil [] w
 go_enter Tryz.func47, Tryz.ntmps47
 have hS := hS.onil rfl
 go_wp2_with fail
 go_loopw [3, 4] (fun uv kk wr => ∃ (j : Nat) (sv : Value), (j ≤ 8) ∧ (sv = uv) ∧ (kk = .int .i64 ((7 : Int) - (j : Int))) ∧ SH [] w wr [.o sv (List.take j (be8 X))])
  (fun uv kk _ => (intOf kk + 1).toNat)
 case atStart => exact ⟨0, _, Nat.zero_le _, rfl, rfl, hS⟩
 clear hS
 case round =>
  obtain ⟨j, sv, hj, rfl, rfl, hS⟩ := hrel
  by_cases hlt : j < 8
  ·
   have _f := hlt
   go_upto_region 3 with fail
   refine RL hS ?_
   clear hS
   refine MV ?_
   refine MW ?_ (v := .bool true) (hv := by intro W; go_simp; first | done | omega)
   refine MZ fun W hS => ?_
   go_upto_region 5 with fail
   refine RL hS ?_
   clear hS
   refine MV ?_
   refine MV ?_
   refine MW ?_ (v := .int .u64 (X : Int)) (hv := by intro W; go_simp; (try simp only [hx2]))
   refine MV ?_
   refine MW ?_ (v := .int .i64 ((8 * (7 - j) : Nat) : Int)) (hv := by intro W; go_simp; (try simp only [IntKind.wrap_i64]); omega)
   refine MW ?_ (v := .int .u64 ((X / 2 ^ (8 * (7 - j)) : Nat) : Int)) (hv := by intro W; exact Z0l (by omega) rfl rfl rfl)
   refine MW ?_ (v := .int .u8 ((by8 X j).toNat : Int)) (hv := by intro W; exact Z4e rfl rfl Tryz.underlying71 Tryz.underlying5)
   refine MO (m := [by8 X j]) (n := 1) (z := #[.int .u8 ((by8 X j).toNat : Int)]) ?_
   intro V7g
   refine MA 1 (xs := (List.take j (be8 X))) (ys := [by8 X j]) (fun W hS => (hS.osl (i := 0) rfl)) (by first | omega | (simp only [lA, lM, lT, lD, lC, lN, Q2, V4, Y4, Y5]; omega)) ?_
   intro V4q
   refine MV ?_
   refine MZ fun W hS => ?_
   go_wp2
   go_roundw
   case rel => exact ⟨j + 1, V4q, by omega, rfl, by rw [show (7 : Int) - ((j + 1 : Nat) : Int) = 7 - (j : Int) - 1 by omega], (by rw [Z0k X hlt]; exact (hS.pick [1]))⟩
   case measure => simp [intOf]; omega
  have _f := hlt
  obtain rfl : j = 8 := by omega
  go_upto_region 3 with fail
  refine RL hS ?_
  clear hS
  refine MV ?_
  refine MW ?_ (v := .bool false) (hv := by intro W; go_simp; first | done | omega)
  refine MZ fun W hS => ?_
  go_wp2
  exact bodyPost_ret (v := sv) (by simp only [results, Tryz.results47]; go_simp) rfl ⟨_, rfl, hS.pick [0]⟩
theorem Y0y (n : Int) (X : Nat) (hx : n % 18446744073709551616 = (X : Int)) (w : World) :
  Calls Tryz.prog 48 #[.int .i64 n] w fun e w' => Ret (str (be8 X)) w w' e := by
 have hx2 : IntKind.wrap .u64 n = (X : Int) := by rw [IntKind.wrap_u64]; exact hx
 have hS := SH.nil [] w
 go_enter Tryz.func48, Tryz.ntmps48
 go_wp2_with fail
 go_loopw [3, 4] (fun uv kk wr => ∃ (j : Nat), (j ≤ 8) ∧ (uv = str (List.take j (be8 X))) ∧ (kk = .int .i64 ((56 : Int) - 8 * (j : Int))) ∧ SH [] w wr [])
  (fun uv kk _ => (intOf kk + 8).toNat)
 case atStart => exact ⟨0, Nat.zero_le _, rfl, rfl, hS⟩
 clear hS
 case round =>
  obtain ⟨j, hj, rfl, rfl, hS⟩ := hrel
  by_cases hlt : j < 8
  ·
   have _f := hlt
   go_upto_region 3 with fail
   refine RL hS ?_
   clear hS
   refine MV ?_
   refine MW ?_ (v := .bool true) (hv := by intro W; go_simp; first | done | omega)
   refine MZ fun W hS => ?_
   go_upto_region 5 with fail
   refine RL hS ?_
   clear hS
   refine MV ?_
   refine MV ?_
   refine MW ?_ (v := .int .u64 (X : Int)) (hv := by intro W; go_simp; (try simp only [hx2]))
   refine MW ?_ (v := .int .i64 ((8 * (7 - j) : Nat) : Int)) (hv := by intro W; go_simp; omega)
   refine MW ?_ (v := .int .u64 ((X / 2 ^ (8 * (7 - j)) : Nat) : Int)) (hv := by intro W; exact Z0l (by omega) rfl rfl rfl)
   refine MW ?_ (v := .int .u8 ((by8 X j).toNat : Int)) (hv := by intro W; exact Z4e rfl rfl Tryz.underlying71 Tryz.underlying5)
   refine MO (m := [by8 X j]) (n := 1) (z := #[.int .u8 ((by8 X j).toNat : Int)]) ?_
   intro V7h
   refine MF (v := str [by8 X j]) (fun W hS => J6u (hS.osl (i := 0) rfl) rfl rfl) ?_
   refine MW ?_ (v := str ((List.take j (be8 X)) ++ [by8 X j])) (hv := fun _ => J5w (l := (List.take j (be8 X))) (m := [by8 X j]) rfl rfl rfl (by first | omega | (simp only [lA, lM, lT, lD, lC, lN, Q2, V4, Y4, Y5]; omega)))
   refine MV ?_
   refine MZ fun W hS => ?_
   go_wp2
   go_roundw
   case rel => exact ⟨j + 1, by omega, by rw [Z0k X hlt], by rw [show (56 : Int) - 8 * ((j + 1 : Nat) : Int) = 56 - 8 * (j : Int) - 8 by omega], (hS.pick [])⟩
   case measure => simp [intOf]; omega
  have _f := hlt
  obtain rfl : j = 8 := by omega
  go_upto_region 3 with fail
  refine RL hS ?_
  clear hS
  refine MV ?_
  refine MW ?_ (v := .bool false) (hv := by intro W; go_simp; first | done | omega)
  refine MZ fun W hS => ?_
  go_wp2
  exact bodyPost_ret (v := str (List.take 8 (be8 X))) (by simp only [results, Tryz.results48]; first | (go_simp; done) | (go_simp; rfl)) rfl ⟨rfl, hS.ext⟩
theorem Y4k (n : Int) (w : World) : Calls Tryz.prog 48 #[.int .i64 n] w fun e w' => Ret (str (eI n)) w w' e := Y0y n _ (by omega) w
theorem Q05 (n : Int) (w : World) : Calls Tryz.prog 47 #[.int .i64 n] w fun e w' => ∃ u, e = .returned u ∧ SH [] w w' [.o u (eI n)] := Z6c n _ (by omega) w
attribute [local irreducible] eI be8 hs4 lb
theorem Z22 {v : Value} {l : List UInt8} (w : World) (hid : Sl w v l) (hl : l.length ≤ 100000000) :
  Calls Tryz.prog 11 #[v] w fun e w' => ∃ u, e = .returned u ∧ SH [] w w' [.o u (kTx l)] := by
 have hS := SH.nil [] w
 go_enter Tryz.func11, Tryz.ntmps11
 go_upto_region 1 with fail
 refine RL hS ?_
 clear hS
 refine MO (m := [5]) (n := 1) (z := #[.int .u8 5]) ?_
 intro V87
 refine MV ?_
 refine MA 0 (xs := [5]) (ys := l) (fun W hS => (Q22 hid hS.ext)) (by first | omega | (simp only [lA, lM, lT, lD, lC, lN, Q2, V4, Y4, Y5]; omega)) ?_
 intro Y4l
 refine MV ?_
 refine MZ fun W hS => ?_
 go_wp2
 exact bodyPost_ret (v := Y4l) (by simp only [results, Tryz.results11]; go_simp) rfl ⟨_, rfl, (hS.pick [0])⟩
theorem Q8m {q : Prop} {v : Value} {l : List UInt8} (w : World) (hG : GT q w) (hid : Sl w v l) (hl : l.length ≤ 100000000) :
  Calls Tryz.prog 8 #[v] w fun e w' => Ret (.agg (J0 .u8 32 (Q5 (hs4 (kTx l))))) w w' e := by
 have hS := SH.nil [] w
 go_enter Tryz.func8, Tryz.ntmps8
 go_upto_region 0 with fail
 refine RL hS ?_
 clear hS
 refine MN (z := J0 .u8 32 (Q5 0)) (t := 31) ?_
 intro J0a
 refine MZ fun W hS => ?_
 go_upto_region 1 with fail
 refine RL hS ?_
 clear hS
 refine MV ?_
 refine ME (V := fun v => v) (fun W hS => J33 hS (Z22 W (Q22 hid hS.ext) (by first | omega | (simp only [lA, lM, lT, lD, lC, lN, Q2, V4, Y4, Y5]; omega))) (fun _ => ⟨rfl, rfl⟩)) ?_
 intro V4r
 refine MB (z := #[V4r]) (t := 22) (n := 1) (c := 1) ?_ (hr := fun W hS => J0h [V4r] rfl rfl (vsc (V3 (hS.osl (i := 0) rfl)).1 vs0) Tryz.underlying113 (by kernel_rfl) (by kernel_rfl) rfl (by decide) (by decide))
 intro Z7s
 obtain ⟨U1, hU1⟩ := exn (hs4 ((kTx l)))
 have HU1 := Lib.hid hU1
 clear hU1
 refine MC (v := .agg (J0 .u8 32 (Q5 U1))) (fun W hS => J3f HU1.out [kTx l] (some ⟨Z7s, 0, none⟩) 1 (by simp only [List.flatten_cons, List.flatten_nil, List.append_nil, List.nil_append, List.append_assoc, List.cons_append]) (by first | omega | (simp only [lA, lM, lT, lD, lC, lN, Q2, V4, Y4, Y5]; omega)) (by simp) W (J10 (hS.blk (i := 0) rfl) (pvc (hS.osl (i := 1) rfl) pv0)) (J1a hG.1 hS.ext)) ?_
 refine MR 2 ?_ 
 refine MZ fun W hS => ?_
 have e_ := HU1.out
 subst e_
 go_wp2
 exact bodyPost_ret (Y0 rfl rfl (hS.blk (i := 2) rfl) (by kernel_rfl) (by rw [J2]; kernel_rfl)) rfl ⟨rfl, hS.ext⟩
theorem Q8n {m : Mb} (w : World) (hid : Sl w m.u m.id) :
  Calls Tryz.prog 13 #[.agg (mbF m)] w fun e w' => ∃ u, e = .returned u ∧ SH [] w w' [.o u (vTx m)] := by
 have huc := V3 hid
 have hS := SH.nil [] w
 go_enter Tryz.func13, Tryz.ntmps13
 go_upto_region 0 with fail
 refine RL hS ?_
 clear hS
 refine MN (z := agF [.c m.u, .c (.bool m.gone), .c (.int .i64 m.ep), .a 32 m.link]) (t := 25) ?_
 intro J1m
 refine MV ?_
 refine MZ fun W hS => ?_
 by_cases hg : m.gone = true
 ·
  have _f := hg
  go_upto_region 1 with fail
  refine RL hS ?_
  clear hS
  refine MV ?_
  refine MG 0 ?_ (v := .bool true) (hj := ((J00 (off := 1) 1).trans (by rw [hg])))
  refine MZ fun W hS => ?_
  go_upto_region 2 with fail
  refine RL hS ?_
  clear hS
  refine MO (m := [7]) (n := 1) (z := #[.int .u8 7]) ?_
  intro Y4l
  refine MV ?_
  refine MZ fun W hS => ?_
  go_wp2
  exact bodyPost_ret (v := Y4l) (by simp only [results, Tryz.results13]; go_simp) rfl ⟨_, rfl, by unfold vTx; (first | rw [if_pos hg] | rw [if_neg hg]); exact (hS.pick [0])⟩
 have _f := hg
 have hg2 : m.gone = false := by simpa using hg
 go_upto_region 1 with fail
 refine RL hS ?_
 clear hS
 refine MV ?_
 refine MG 0 ?_ (v := .bool false) (hj := ((J00 (off := 1) 1).trans (by rw [hg2])))
 refine MZ fun W hS => ?_
 go_upto_region 3 with fail
 refine RTh (.q 1 (.q 2 (.q 5 (.q 6 (.b 0 (.e 3 (.e 4 (.e 7 (.q 8 .z)))) 3 (.e 0 (.e 4 (.e 7 (.q 8 .z))))))))) hS ?_
 clear hS
 refine TV ?_
 refine TG 0 ?_ (v := .int .i64 m.ep) (hj := (J00 (off := 2) 2))
 refine TV ?_
 refine TW ?_ (v := .slice (some ⟨J1m, 3, none⟩) 32 32)
 refine TB (fun _ h => h) ?_ ?_
 ·
  skip
  refine MO (m := [6]) (n := 1) (z := #[.int .u8 6]) ?_
  intro V88
  refine TNp [1] [0] ?_
  refine TE (fun _ h => h.pick [1]) ?_
  refine ME (V := fun v => v) (fun W hS => J33 hS (Q05 m.ep W) (fun _ => ⟨rfl, rfl⟩)) ?_
  intro V89
  refine TNp [0, 2] [1] ?_
  refine TE (fun _ h => h.pick [0, 2]) ?_
  refine MA 1 (xs := [6]) (ys := (eI m.ep)) (fun W hS => (hS.osl (i := 0) rfl)) (by first | omega | (simp only [lA, lM, lT, lD, lC, lN, Q2, V4, Y4, Y5]; omega)) ?_
  intro Y6o
  refine TNp [0, 2] [0, 1] ?_
  refine TE (fun _ h => h.pick [0, 2]) ?_
  refine MA 1 (xs := ([6] ++ (eI m.ep))) (ys := (lb 32 m.link)) (fun W hS => (J03 (V := m.link) (n := 32) (off := 3) (c := 32) (hS.blk (i := 2) rfl) (J3x (off := 3) 3) (by decide) (by decide))) (by first | omega | (simp only [lA, lM, lT, lD, lC, lN, Q2, V4, Y4, Y5]; omega)) ?_
  intro V4s
  refine TNp [0, 1, 2] [0, 2] ?_
  refine TV ?_
  refine TZ (fun _ h => h) fun W hS => ?_
  go_wp2
  exact bodyPost_ret (v := V4s) (by simp only [results, Tryz.results13]; go_simp) rfl ⟨_, rfl, by unfold vTx; (first | rw [if_pos hg] | rw [if_neg hg]); exact (hS.pick [1])⟩
 skip
 refine ME (V := fun v => v) (fun W hS => J33 hS (Q05 m.ep W) (fun _ => ⟨rfl, rfl⟩)) ?_
 intro V8a
 refine TNp [0, 1] [1] ?_
 refine TE (fun _ h => h) ?_
 refine MO (m := [6]) (n := 1) (z := #[.int .u8 6]) ?_
 intro V8b
 refine TNp [1, 2] [0, 1] ?_
 refine TE (fun _ h => h.pick [1, 2]) ?_
 refine MA 0 (xs := [6]) (ys := (eI m.ep)) (fun W hS => (hS.osl (i := 1) rfl)) (by first | omega | (simp only [lA, lM, lT, lD, lC, lN, Q2, V4, Y4, Y5]; omega)) ?_
 intro Y6p
 refine TNp [1, 2] [0, 1] ?_
 refine TE (fun _ h => h.pick [1, 2]) ?_
 refine MA 0 (xs := ([6] ++ (eI m.ep))) (ys := (lb 32 m.link)) (fun W hS => (J03 (V := m.link) (n := 32) (off := 3) (c := 32) (hS.blk (i := 2) rfl) (J3x (off := 3) 3) (by decide) (by decide))) (by first | omega | (simp only [lA, lM, lT, lD, lC, lN, Q2, V4, Y4, Y5]; omega)) ?_
 intro V0r
 refine TNp [0, 1, 2] [1, 2] ?_
 refine TV ?_
 refine TZ (fun _ h => h) fun W hS => ?_
 go_wp2
 exact bodyPost_ret (v := V0r) (by simp only [results, Tryz.results13]; go_simp) rfl ⟨_, rfl, by unfold vTx; (first | rw [if_pos hg] | rw [if_neg hg]); exact (hS.pick [0])⟩
theorem Y0z {q : Prop} {m : Mb} (w : World) (hG : GT q w) (hid : Sl w m.u m.id) :
  Calls Tryz.prog 9 #[.agg (mbF m)] w fun e w' => Ret (.agg (J0 .u8 32 (Q5 (hs4 (vTx m))))) w w' e := by
 have huc := V3 hid
 have hvl := Z4f m
 have hS := SH.nil [] w
 go_enter Tryz.func9, Tryz.ntmps9
 go_upto_region 0 with fail
 refine RL hS ?_
 clear hS
 refine MN (z := agF [.c m.u, .c (.bool m.gone), .c (.int .i64 m.ep), .a 32 m.link]) (t := 25) ?_
 intro J1m
 refine MN (z := J0 .u8 32 (Q5 0)) (t := 23) ?_
 intro J5o
 refine MZ fun W hS => ?_
 go_upto_region 1 with fail
 refine RL hS ?_
 clear hS
 refine ML 1 ?_ (hs := by rw [Q3]; kernel_rfl)
 refine ME (V := fun v => v) (fun W hS => J33 hS (Q8n W (Q22 hid hS.ext)) (fun _ => ⟨rfl, rfl⟩)) ?_
 intro V4t
 refine MB (z := #[V4t]) (t := 22) (n := 1) (c := 1) ?_ (hr := fun W hS => J0h [V4t] rfl rfl (vsc (V3 (hS.osl (i := 0) rfl)).1 vs0) Tryz.underlying113 (by kernel_rfl) (by kernel_rfl) rfl (by decide) (by decide))
 intro J47
 obtain ⟨U1, hU1⟩ := exn (hs4 ((vTx m)))
 have HU1 := Lib.hid hU1
 clear hU1
 refine MC (v := .agg (J0 .u8 32 (Q5 U1))) (fun W hS => J3f HU1.out [vTx m] (some ⟨J47, 0, none⟩) 1 (by simp only [List.flatten_cons, List.flatten_nil, List.append_nil, List.nil_append, List.append_assoc, List.cons_append]) (by first | omega | (simp only [lA, lM, lT, lD, lC, lN, Q2, V4, Y4, Y5]; omega)) (by simp) W (J10 (hS.blk (i := 0) rfl) (pvc (hS.osl (i := 1) rfl) pv0)) (J1a hG.1 hS.ext)) ?_
 refine MR 2 ?_ 
 refine MZ fun W hS => ?_
 have e_ := HU1.out
 subst e_
 go_wp2
 exact bodyPost_ret (Y0 rfl rfl (hS.blk (i := 2) rfl) (by kernel_rfl) (by rw [J2]; kernel_rfl)) rfl ⟨rfl, hS.ext⟩
theorem Q8o (n : Int) (r : Nat) (w : World) :
  Calls Tryz.prog 16 #[.int .i64 n, .agg (J0 .u8 32 (Q5 r))] w fun e w' => ∃ u, e = .returned u ∧ SH [] w w' [.o u (sTx n r)] := by
 have hS := SH.nil [] w
 go_enter Tryz.func16, Tryz.ntmps16
 go_upto_region 0 with fail
 refine RL hS ?_
 clear hS
 refine MN (z := J0 .u8 32 (Q5 r)) (t := 23) ?_
 intro J0c
 refine MV ?_
 refine MZ fun W hS => ?_
 go_upto_region 1 with fail
 refine RTh (.q 1 (.q 4 (.b 0 (.e 2 (.e 3 (.e 5 (.q 6 .z)))) 2 (.e 0 (.e 3 (.e 5 (.q 6 .z))))))) hS ?_
 clear hS
 refine TV ?_
 refine TW ?_ (v := .slice (some ⟨J0c, 0, none⟩) 32 32)
 refine TB (fun _ h => h) ?_ ?_
 ·
  skip
  refine MO (m := [8]) (n := 1) (z := #[.int .u8 8]) ?_
  intro Y4l
  refine TNp [1] [0] ?_
  refine TE (fun _ h => h.pick [1]) ?_
  refine ME (V := fun v => v) (fun W hS => J33 hS (Q05 n W) (fun _ => ⟨rfl, rfl⟩)) ?_
  intro V8c
  refine TNp [0, 2] [1] ?_
  refine TE (fun _ h => h.pick [0, 2]) ?_
  refine MA 1 (xs := [8]) (ys := (eI n)) (fun W hS => (hS.osl (i := 0) rfl)) (by first | omega | (simp only [lA, lM, lT, lD, lC, lN, Q2, V4, Y4, Y5]; omega)) ?_
  intro V8d
  refine TNp [0, 2] [0, 1] ?_
  refine TE (fun _ h => h.pick [0, 2]) ?_
  refine MA 1 (xs := ([8] ++ (eI n))) (ys := (lb 32 r)) (fun W hS => (J03 (V := r) (n := 32) (off := 0) (c := 32) (hS.blk (i := 2) rfl) ap0 (by decide) (by decide))) (by first | omega | (simp only [lA, lM, lT, lD, lC, lN, Q2, V4, Y4, Y5]; omega)) ?_
  intro Y6o
  refine TNp [0, 1, 2] [0, 2] ?_
  refine TV ?_
  refine TZ (fun _ h => h) fun W hS => ?_
  go_wp2
  exact bodyPost_ret (v := Y6o) (by simp only [results, Tryz.results16]; go_simp) rfl ⟨_, rfl, (hS.pick [1])⟩
 skip
 refine ME (V := fun v => v) (fun W hS => J33 hS (Q05 n W) (fun _ => ⟨rfl, rfl⟩)) ?_
 intro V8e
 refine TNp [0, 1] [1] ?_
 refine TE (fun _ h => h) ?_
 refine MO (m := [8]) (n := 1) (z := #[.int .u8 8]) ?_
 intro V8f
 refine TNp [1, 2] [0, 1] ?_
 refine TE (fun _ h => h.pick [1, 2]) ?_
 refine MA 0 (xs := [8]) (ys := (eI n)) (fun W hS => (hS.osl (i := 1) rfl)) (by first | omega | (simp only [lA, lM, lT, lD, lC, lN, Q2, V4, Y4, Y5]; omega)) ?_
 intro V8g
 refine TNp [1, 2] [0, 1] ?_
 refine TE (fun _ h => h.pick [1, 2]) ?_
 refine MA 0 (xs := ([8] ++ (eI n))) (ys := (lb 32 r)) (fun W hS => (J03 (V := r) (n := 32) (off := 0) (c := 32) (hS.blk (i := 2) rfl) ap0 (by decide) (by decide))) (by first | omega | (simp only [lA, lM, lT, lD, lC, lN, Q2, V4, Y4, Y5]; omega)) ?_
 intro Y6p
 refine TNp [0, 1, 2] [1, 2] ?_
 refine TV ?_
 refine TZ (fun _ h => h) fun W hS => ?_
 go_wp2
 exact bodyPost_ret (v := Y6p) (by simp only [results, Tryz.results16]; go_simp) rfl ⟨_, rfl, (hS.pick [0])⟩
theorem Y10 {q : Prop} (hr : q) {l : List UInt8} (hl : l.length ≤ 100000000) (w : World) (hG : GT q w) :
  Calls Tryz.prog 12 #[str l] w fun e w' => Ret (str (lb 32 (hs4 (kTx l)))) w w' e := by
 have hS := SH.nil [] w
 go_enter Tryz.func12, Tryz.ntmps12
 go_upto_region 1 with fail
 refine RL hS ?_
 clear hS
 refine MV ?_
 refine MW ?_ (v := str ([5] ++ l)) (hv := fun _ => J5w (l := [5]) (m := l) rfl rfl rfl (by first | omega | (simp only [lA, lM, lT, lD, lC, lN, Q2, V4, Y4, Y5]; omega)))
 obtain ⟨U1, hU1⟩ := exn (hs4 ([5] ++ l))
 have HU1 := Lib.hid hU1
 clear hU1
 refine MC (v := str (lb 32 U1)) (fun W hS => J9j HU1.out (by first | omega | (simp only [lA, lM, lT, lD, lC, lN, Q2, V4, Y4, Y5]; omega)) W (J84 (hG.2 hr) hS.ext)) ?_
 refine MV ?_
 refine MZ fun W hS => ?_
 go_wp2
 exact bodyPost_ret (v := str (lb 32 U1)) (by simp only [results, Tryz.results12]; go_simp) rfl ⟨(by (try rw [HU1.out]); first | done | rfl), hS.ext⟩
theorem Q8p {m : Mb} (w : World) :
  Calls Tryz.prog 14 #[.agg (agF [.c (str m.id), .c (.bool m.gone), .c (.int .i64 m.ep), .c (str (lb 32 m.link))])] w fun e w' => Ret (str (vTx m)) w w' e := by
 have hS := SH.nil [] w
 go_enter Tryz.func14, Tryz.ntmps14
 go_upto_region 0 with fail
 refine RL hS ?_
 clear hS
 refine MN (z := agF [.c (str m.id), .c (.bool m.gone), .c (.int .i64 m.ep), .c (str (lb 32 m.link))]) (t := 27) ?_
 intro J1m
 refine MV ?_
 refine MZ fun W hS => ?_
 by_cases hg : m.gone = true
 ·
  have _f := hg
  go_upto_region 1 with fail
  refine RL hS ?_
  clear hS
  refine MV ?_
  refine MG 0 ?_ (v := .bool true) (hj := ((J00 (off := 1) 1).trans (by rw [hg])))
  refine MZ fun W hS => ?_
  go_wp2
  exact bodyPost_ret (v := str [7]) (by simp only [results, Tryz.results14]; first | (go_simp; done) | (go_simp; rfl)) rfl ⟨by first | rw [Y6m hg] | rw [Y6n hg], hS.ext⟩
 have _f := hg
 have hg2 : m.gone = false := by simpa using hg
 go_upto_region 1 with fail
 refine RL hS ?_
 clear hS
 refine MV ?_
 refine MG 0 ?_ (v := .bool false) (hj := ((J00 (off := 1) 1).trans (by rw [hg2])))
 refine MZ fun W hS => ?_
 go_upto_region 3 with fail
 refine RTh (.q 0 (.q 1 (.q 4 (.q 5 (.e 2 (.q 3 (.q 6 (.q 7 .z)))))))) hS ?_
 clear hS
 refine TV ?_
 refine TG 0 ?_ (v := .int .i64 m.ep) (hj := (J00 (off := 2) 2))
 refine TV ?_
 refine TG 0 ?_ (v := str (lb 32 m.link)) (hj := (J00 (off := 3) 3))
 refine TE (fun _ h => h) ?_
 refine MC (v := str (eI m.ep)) (fun W hS => Y4k m.ep W) ?_
 refine TNh (fun W hS => hS) ?_
 refine TW ?_ (v := str ([6] ++ (eI m.ep))) (hv := fun _ => J5w (l := [6]) (m := (eI m.ep)) rfl rfl rfl (by first | omega | (simp only [lA, lM, lT, lD, lC, lN, Q2, V4, Y4, Y5]; omega)))
 refine TW ?_ (v := str (([6] ++ (eI m.ep)) ++ (lb 32 m.link))) (hv := fun _ => J5w (l := ([6] ++ (eI m.ep))) (m := (lb 32 m.link)) rfl rfl rfl (by first | omega | (simp only [lA, lM, lT, lD, lC, lN, Q2, V4, Y4, Y5]; omega)))
 refine TV ?_
 refine TZ (fun _ h => h) fun W hS => ?_
 go_wp2
 exact bodyPost_ret (v := str (([6] ++ (eI m.ep)) ++ (lb 32 m.link))) (by simp only [results, Tryz.results14]; first | (go_simp; done) | (go_simp; rfl)) rfl ⟨by first | rw [Y6m hg] | rw [Y6n hg], hS.ext⟩
end

section
def kl (a b : Nat) : Bool := Z0d (Q5 a) (Q5 b)
theorem Q3i {a b i : Nat} (h : i < 256) : kb a i = kb b i ↔ J2n (Q5 a) i = J2n (Q5 b) i := by
  rw [← Q01 h, ← Q01 h]; omega
theorem J2u (a b : Nat) : (∀ i, i < J06 (Q5 a) (Q5 b) → kb a i = kb b i) ∧ (J06 (Q5 a) (Q5 b) < 256 → kb a (J06 (Q5 a) (Q5 b)) ≠ kb b (J06 (Q5 a) (Q5 b))) := by
  have key : ∀ n i, n + i = 256 → (∀ j, j < i → kb a j = kb b j) → (∀ j, j < J9i (Q5 a) (Q5 b) (256 - i) i → kb a j = kb b j) ∧ (J9i (Q5 a) (Q5 b) (256 - i) i < 256 → kb a (J9i (Q5 a) (Q5 b) (256 - i) i) ≠ kb b (J9i (Q5 a) (Q5 b) (256 - i) i)) := by
    intro n
    induction n with
    | zero =>
      intro i hi h
      obtain rfl : i = 256 := by omega
      exact ⟨h, fun h1 => absurd h1 (by show ¬ 256 < 256; omega)⟩
    | succ n ih =>
      intro i hi h
      rw [J63 (by omega)]
      split
      · rename_i he
        exact ih (i + 1) (by omega) fun j hj => by
          rcases Nat.lt_succ_iff_lt_or_eq.1 hj with hj | rfl
          · exact h j hj
          · exact (Q3i (by omega)).2 he
      · rename_i he
        exact ⟨h, fun h1 => fun h2 => he ((Q3i h1).1 h2)⟩
  exact key 256 0 rfl (fun j hj => absurd hj (Nat.not_lt_zero _))
theorem Q8i {a b m : Nat} (hm : m ≤ 256) (hlt : ∀ i, i < m → kb a i = kb b i) (he : m < 256 → kb a m ≠ kb b m) : J06 (Q5 a) (Q5 b) = m :=
  Q8f hm (fun i hi => (Q3i (by omega)).1 (hlt i hi)) fun h => fun h2 => he h ((Q3i h).2 h2)
theorem Q6i (a b : Nat) : J06 (Q5 a) (Q5 b) = J06 (Q5 b) (Q5 a) := by
  obtain ⟨h1, h2⟩ := J2u b a
  exact Q8i (Q3g _ _) (fun i hi => (h1 i hi).symm) fun h => (h2 h).symm
theorem kl_iff {a b : Nat} : kl a b = true ↔ J06 (Q5 a) (Q5 b) < 256 ∧ kb a (J06 (Q5 a) (Q5 b)) = 0 := by
  unfold kl Z0d
  simp only [Bool.and_eq_true, decide_eq_true_eq]
  constructor
  · rintro ⟨h1, h2⟩; exact ⟨h1, by have := Q01 (k := a) h1; omega⟩
  rintro ⟨h1, h2⟩; exact ⟨h1, by have := Q01 (k := a) h1; omega⟩
theorem Q8j {a b : Nat} (h : kl a b = true) : kb b (J06 (Q5 a) (Q5 b)) = 1 := by
  obtain ⟨h1, h2⟩ := kl_iff.1 h
  have h3 := (J2u a b).2 h1
  have := Q18 b (J06 (Q5 a) (Q5 b))
  omega
theorem Q2d (a : Nat) : kl a a = false := by
  cases h : kl a a with
  | false => rfl
  | true => have h1 := kl_iff.1 h; exact absurd rfl ((J2u a a).2 h1.1)
theorem Q51 {a b c : Nat} (h1 : kl a b = true) (h2 : kl b c = true) : kl a c = true := by
  obtain ⟨p1, p2⟩ := kl_iff.1 h1
  obtain ⟨q1, q2⟩ := kl_iff.1 h2
  have p3 := Q8j h1
  have q3 := Q8j h2
  have sa := (J2u a b).1
  have sb := (J2u b c).1
  generalize J06 (Q5 a) (Q5 b) = m at *
  generalize J06 (Q5 b) (Q5 c) = n at *
  rcases Nat.lt_trichotomy m n with h | h | h
  · have e : J06 (Q5 a) (Q5 c) = m := Q8i (by omega) (fun i hi => (sa i hi).trans (sb i (by omega))) fun _ => by rw [p2, ← sb m h, p3]; decide
    exact kl_iff.2 (by rw [e]; exact ⟨p1, p2⟩)
  · subst h; omega
  have e : J06 (Q5 a) (Q5 c) = n := Q8i (by omega) (fun i hi => (sa i (by omega)).trans (sb i hi)) fun _ => by rw [sa n h, q2, q3]; decide
  exact kl_iff.2 (by rw [e]; exact ⟨q1, by rw [sa n h, q2]⟩)
theorem Q52 {a b : Nat} (ha : a < 2 ^ 256) (hb : b < 2 ^ 256) (hne : a ≠ b) (h : kl a b = false) : kl b a = true := by
  have h1 := Z48 ha hb hne
  have h2 := (J2u a b).2 h1
  have h3 : kb a (J06 (Q5 a) (Q5 b)) ≠ 0 := fun e => by rw [kl_iff.2 ⟨h1, e⟩] at h; cases h
  have h4 := Q18 a (J06 (Q5 a) (Q5 b))
  have h5 := Q18 b (J06 (Q5 a) (Q5 b))
  have h6 : kb b (J06 (Q5 a) (Q5 b)) = 0 := by omega
  exact kl_iff.2 (by rw [Q6i b a]; exact ⟨h1, h6⟩)
/-! ### Lists of leaves, by the document -/
def J4t (x : Lf) : Bool → List Lf → List Lf
  | done, [] => if done = true then [] else [x]
  | done, y :: r => (if done = false ∧ kl y.1 x.1 = false then [x] else []) ++ ((if y.1 = x.1 then [] else [y]) ++ J4t x (done || !kl y.1 x.1) r)
def J43 (l : List Lf) (x : Lf) : List Lf := J4t x false l
def J2j (ls : List Lf) : List Lf := ls.foldl J43 []
def V9 (l : List Lf) (d b : Nat) : List Lf := l.filter fun y => decide (kb y.1 d = b)
def Srt (l : List Lf) : Prop := l.Pairwise (fun a b => kl a.1 b.1 = true)
def J2x (l : List Lf) : Prop := ∀ y ∈ l, y.1 < 2 ^ 256 ∧ y.2 < 2 ^ 256
theorem J8l (x : Lf) : ∀ l : List Lf, J4t x true l = l.filter fun y => decide (y.1 ≠ x.1)
  | [] => rfl
  | y :: r => by
    show ([] : List Lf) ++ ((if y.1 = x.1 then [] else [y]) ++ J4t x true r) = _
    rw [J8l x r, List.filter_cons]
    by_cases h : y.1 = x.1
    · rw [if_pos h, if_neg (by simp [h])]; rfl
    · rw [if_neg h, if_pos (by simp [h])]; rfl
theorem J8m {x y : Lf} {r : List Lf} (h : kl y.1 x.1 = true) : J43 (y :: r) x = y :: J43 r x := by
  have hne : y.1 ≠ x.1 := fun e => by rw [e, Q2d] at h; cases h
  show J4t x false (y :: r) = y :: J4t x false r
  simp [J4t, h, hne]
theorem J4p {x y : Lf} {r : List Lf} (h : kl y.1 x.1 = false) : J43 (y :: r) x = x :: (if y.1 = x.1 then [] else [y]) ++ r.filter fun z => decide (z.1 ≠ x.1) := by
  show (if (false = false ∧ kl y.1 x.1 = false) then [x] else []) ++ ((if y.1 = x.1 then [] else [y]) ++ J4t x (false || !kl y.1 x.1) r) = _
  rw [if_pos ⟨rfl, h⟩, h]
  show [x] ++ (_ ++ J4t x true r) = _
  rw [J8l]; simp
theorem Q0r {l : List Lf} (p : Lf → Bool) (h : Srt l) : Srt (l.filter p) := List.Pairwise.filter p h
theorem Q53 {x z : Lf} : ∀ {l : List Lf}, z ∈ J43 l x → z = x ∨ z ∈ l
  | [], h => by rw [show J43 [] x = [x] from rfl] at h; exact .inl (List.mem_singleton.1 h)
  | y :: r, h => by
    cases hk : kl y.1 x.1 with
    | true =>
      rw [J8m hk] at h
      rcases List.mem_cons.1 h with rfl | h
      · exact .inr (by simp)
      · rcases Q53 h with h | h
        · exact .inl h
        · exact .inr (by simp [h])
    | false =>
      rw [J4p hk] at h
      simp only [List.cons_append, List.mem_cons, List.mem_append, List.mem_filter] at h
      rcases h with h | h | h
      · exact .inl h
      · split at h
        · cases h
        · exact .inr (by simp at h; simp [h])
      · exact .inr (by simp [h.1])
theorem Z49 {l : List Lf} {x : Lf} (h : J2x l) (hx : x.1 < 2 ^ 256 ∧ x.2 < 2 ^ 256) : J2x (J43 l x) := fun z hz => by
  rcases Q53 hz with rfl | hz
  · exact hx
  · exact h z hz
theorem Q54 {x : Lf} (hx : x.1 < 2 ^ 256) : ∀ {l : List Lf}, J2x l → Srt l → Srt (J43 l x)
  | [], _, _ => by show Srt [x]; exact List.pairwise_singleton _ _
  | y :: r, ho, hs => by
    have hc := List.pairwise_cons.1 hs
    have hy := ho y (by simp)
    cases hk : kl y.1 x.1 with
    | true =>
      rw [J8m hk]
      refine List.pairwise_cons.2 ⟨fun z hz => ?_, Q54 hx (fun z hz => ho z (by simp [hz])) hc.2⟩
      rcases Q53 hz with rfl | hz
      · exact hk
      · exact hc.1 z hz
    | false =>
      rw [J4p hk]
      have hxy : y.1 = x.1 ∨ kl x.1 y.1 = true := by
        by_cases e : y.1 = x.1
        · exact .inl e
        · exact .inr (Q52 hy.1 hx e hk)
      have hall : ∀ z ∈ r, kl x.1 z.1 = true := fun z hz => by
        rcases hxy with e | e
        · rw [← e]; exact hc.1 z hz
        exact Q51 e (hc.1 z hz)
      rw [List.cons_append]
      refine List.pairwise_cons.2 ⟨fun z hz => ?_, ?_⟩
      · rcases List.mem_append.1 hz with hz | hz
        · split at hz
          · cases hz
          rename_i e; rw [List.mem_singleton.1 hz]; exact hxy.resolve_left e
        exact hall z (List.mem_filter.1 hz).1
      split
      · exact Q0r _ hc.2
      refine List.pairwise_cons.2 ⟨fun z hz => hc.1 z (List.mem_filter.1 hz).1, Q0r _ hc.2⟩
theorem J6d {ls : List Lf} (h : J2x ls) : J2x (J2j ls) ∧ Srt (J2j ls) := by
  unfold J2j
  have : ∀ (ls acc : List Lf), J2x ls → J2x acc → Srt acc → J2x (ls.foldl J43 acc) ∧ Srt (ls.foldl J43 acc) := by
    intro ls
    induction ls with
    | nil => intro acc _ h1 h2; exact ⟨h1, h2⟩
    | cons x r ih =>
      intro acc ho h1 h2
      have hx := ho x (by simp)
      exact ih (J43 acc x) (fun z hz => ho z (by simp [hz])) (Z49 h1 hx) (Q54 hx.1 h1 h2)
  exact this ls [] h (fun z hz => by cases hz) .nil
theorem J7w {x : Lf} {l : List Lf} (h : ∀ z ∈ l, kl x.1 z.1 = true) : (l.filter fun z => decide (z.1 ≠ x.1)) = l := by
  rw [List.filter_eq_self]
  intro z hz
  have := h z hz
  simp only [decide_eq_true_eq]
  intro e; rw [e, Q2d] at this; cases this
theorem Q0s {d b : Nat} {x : Lf} (hx : x.1 < 2 ^ 256) : ∀ {l : List Lf}, J2x l → Srt l → V9 (J43 l x) d b = if kb x.1 d = b then J43 (V9 l d b) x else V9 l d b
  | [], _, _ => by
    show V9 [x] d b = _
    unfold V9
    by_cases h : kb x.1 d = b
    · rw [if_pos h, List.filter_cons, if_pos (by simp [h])]; rfl
    · rw [if_neg h, List.filter_cons, if_neg (by simp [h])]
  | y :: r, ho, hs => by
    have hc := List.pairwise_cons.1 hs
    have hy := ho y (by simp)
    have hr : J2x r := fun z hz => ho z (by simp [hz])
    cases hk : kl y.1 x.1 with
    | true =>
      have ih := Q0s (d := d) (b := b) hx hr hc.2
      rw [J8m hk]
      have e : ∀ q : List Lf, V9 (y :: q) d b = if kb y.1 d = b then y :: V9 q d b else V9 q d b := fun q => by unfold V9; rw [List.filter_cons]; simp
      rw [e, e, ih]
      by_cases h1 : kb y.1 d = b
      · rw [if_pos h1, if_pos h1]
        by_cases h2 : kb x.1 d = b
        · rw [if_pos h2, if_pos h2, J8m hk]
        · rw [if_neg h2, if_neg h2]
      · rw [if_neg h1, if_neg h1]
    | false =>
      have hxy : y.1 = x.1 ∨ kl x.1 y.1 = true := by
        by_cases e : y.1 = x.1
        · exact .inl e
        · exact .inr (Q52 hy.1 hx e hk)
      have hall : ∀ z ∈ r, kl x.1 z.1 = true := fun z hz => by
        rcases hxy with e | e
        · rw [← e]; exact hc.1 z hz
        exact Q51 e (hc.1 z hz)
      have hnl : ∀ z ∈ r, kl z.1 x.1 = false := fun z hz => by
        cases h : kl z.1 x.1 with
        | false => rfl
        | true => have := Q51 h (hall z hz); rw [Q2d] at this; cases this
      rw [J4p hk, J7w hall]
      have hput : ∀ q : List Lf, (∀ z ∈ q, z ∈ r) → J43 q x = x :: q := fun q hq => by
        cases q with
        | nil => rfl
        | cons z q =>
          have hz := hq z (by simp)
          rw [J4p (hnl z hz), J7w fun u hu => hall u (hq u (by simp [hu])), if_neg (fun e => by have := hall z hz; rw [e, Q2d] at this; cases this)]
          rfl
      unfold V9
      by_cases hb : kb x.1 d = b
      · rw [if_pos hb, List.cons_append, List.filter_cons, if_pos (by simp [hb])]
        by_cases e : y.1 = x.1
        · rw [if_pos e, List.nil_append, List.filter_cons, if_pos (by simp [e, hb])]
          rw [J4p hk, if_pos e, J7w fun z hz => hall z (List.mem_filter.1 hz).1]
          rfl
        rw [if_neg e, List.singleton_append, List.filter_cons]
        by_cases h1 : kb y.1 d = b
        · rw [if_pos (by simp [h1]), J4p hk, if_neg e, J7w fun z hz => hall z (List.mem_filter.1 hz).1]
          rfl
        rw [if_neg (by simp [h1]), hput _ fun z hz => (List.mem_filter.1 hz).1]
      rw [if_neg hb, List.cons_append, List.filter_cons, if_neg (by simp [hb])]
      by_cases e : y.1 = x.1
      · rw [if_pos e, List.nil_append, List.filter_cons, if_neg (by simp [e, hb])]
      rw [if_neg e]; rfl
end
end Go.Proofs.YtejkmhgkkibafaaGreatDoor
