/- super: a number's bytes, texts, keys and values, the program's and the document's. Conditions: the tables hold their numbers. -/
import Derived.Test.YtejkmhgkkibafaaGreatDoorJ43
import Derived.Test.YtejkmhgkkibafaaGreatDoorUz
import Derived.Test.YtejkmhgkkibafaaGreatDoorJ8
import Derived.Test.YtejkmhgkkibafaaGreatDoorJ9
set_option linter.unusedSimpArgs false
set_option linter.unusedVariables false
namespace Go.Proofs.YtejkmhgkkibafaaGreatDoor
set_option maxHeartbeats 3000000
set_option maxRecDepth 100000
open Go.RowKit
attribute [local irreducible] wpList wpTr wpX
set_option linter.unusedSimpArgs false
/-- the eight bytes of any int -/
def eI (n : Int) : List UInt8 := be8 (n % 18446744073709551616).toNat
theorem eI_len (n : Int) : (eI n).length = 8 := rfl
theorem eight_s (n : Int) (w : World) : Calls Tryz.prog 48 #[.int .i64 n] w fun e w' => Ret (str (eI n)) w w' e :=
 eight_c n (n % 18446744073709551616).toNat (by omega) w
/-- a member: its id's value, and what it says -/
structure Mb where
 u : Value
 id : List UInt8
 gone : Bool
 ep : Int
 link : Nat
abbrev mbF (m : Mb) : Array Value := agF [.c m.u, .c (.bool m.gone), .c (.int .i64 m.ep), .a 32 m.link]
/-- what is summed up for a member, and signed for an epoch -/
def kTx (l : List UInt8) : List UInt8 := [5] ++ l
def vTx (m : Mb) : List UInt8 := if m.gone = true then [7] else [6] ++ eI m.ep ++ lb 32 m.link
def sTx (e : Int) (r : Nat) : List UInt8 := [8] ++ eI e ++ lb 32 r
theorem vTx_t {m : Mb} (h : m.gone = true) : vTx m = [7] := if_pos h
theorem vTx_f {m : Mb} (h : ¬ m.gone = true) : vTx m = [6] ++ eI m.ep ++ lb 32 m.link := if_neg h
theorem kTx_len (l : List UInt8) : (kTx l).length = 1 + l.length := by unfold kTx; simp; omega
theorem sTx_len (e : Int) (r : Nat) : (sTx e r).length = 41 := by unfold sTx; simp [eI_len, lb_length]
theorem vTx_len (m : Mb) : (vTx m).length ≤ 41 := by unfold vTx; split <;> simp [eI_len, lb_length]

theorem snumber_c (n : Int) (X : Nat) (hx : n % 18446744073709551616 = (X : Int)) (w : World) :
  Calls Tryz.prog 47 #[.int .i64 n] w fun e w' => ∃ u, e = .returned u ∧ SH [] w w' [.o u (be8 X)] := by
 have hx2 : IntKind.wrap .u64 n = (X : Int) := by rw [IntKind.wrap_u64]; exact hx
 have x0 : (0 : Int) ≤ (X : Int) := Int.natCast_nonneg _
 have x1 : (X : Int) < 18446744073709551616 := by omega
 have hS := SH.nil [] w
 go_enter Tryz.func47, Tryz.ntmps47
 go_wp2_with fail
 refine wp_loop_rounds 9 ?_
 rw [rounds_succ]
 go_upto_region 5 with fail
 refine RL hS ?_
 clear hS
 refine MV ?_
 refine MV ?_
 refine MW ?_ (v := .int .u64 (X : Int)) (hv := by intro W; go_simp; (try simp only [hx2]))
 refine MW ?_ (v := .int .i64 7)
 refine MW ?_ (v := .int .i64 56)
 refine MW ?_ (v := .int .u64 ((X / 72057594037927936 : Nat) : Int)) (hv := by intro W; go_simp; (try omega))
 refine MW ?_ (v := .int .u8 ((u8 (X / 72057594037927936)).toNat : Int)) (hv := by intro W; go_simp; (try simp only [u8_cast, IntKind.wrap_u8]); (try omega))
 refine MO (m := [u8 (X / 72057594037927936)]) (n := 1) (z := #[.int .u8 ((u8 (X / 72057594037927936)).toNat : Int)]) ?_
 intro v16_1
 refine MT (fun W hS => hS.onil rfl) ?_
 refine MA 0 (xs := []) (ys := [u8 (X / 72057594037927936)]) (fun W hS => (hS.osl (i := 1) rfl)) (by first | omega | (simp only [List.length_append, List.length_map, List.length_take, List.length_drop, List.length_cons, List.length_nil, lb_length, eI_len, kTx_len, sTx_len]; omega)) ?_
 intro v17_2
 refine MV ?_
 refine MZ fun W hS => ?_
 go_wp2_with fail
 rw [rounds_succ]
 go_upto_region 5 with fail
 refine RL hS ?_
 clear hS
 refine MV ?_
 refine MV ?_
 refine MW ?_ (v := .int .u64 (X : Int)) (hv := by intro W; go_simp; (try simp only [hx2]))
 refine MW ?_ (v := .int .i64 6)
 refine MW ?_ (v := .int .i64 48)
 refine MW ?_ (v := .int .u64 ((X / 281474976710656 : Nat) : Int)) (hv := by intro W; go_simp; (try omega))
 refine MW ?_ (v := .int .u8 ((u8 (X / 281474976710656)).toNat : Int)) (hv := by intro W; go_simp; (try simp only [u8_cast, IntKind.wrap_u8]); (try omega))
 refine MD 1 ?_
 refine MO (m := [u8 (X / 281474976710656)]) (n := 1) (z := #[.int .u8 ((u8 (X / 281474976710656)).toNat : Int)]) ?_
 intro v16_3
 refine MA 1 (xs := ([] ++ [u8 (X / 72057594037927936)])) (ys := [u8 (X / 281474976710656)]) (fun W hS => (hS.osl (i := 0) rfl)) (by first | omega | (simp only [List.length_append, List.length_map, List.length_take, List.length_drop, List.length_cons, List.length_nil, lb_length, eI_len, kTx_len, sTx_len]; omega)) ?_
 intro v17_4
 refine MV ?_
 refine MZ fun W hS => ?_
 go_wp2_with fail
 rw [rounds_succ]
 go_upto_region 5 with fail
 refine RL hS ?_
 clear hS
 refine MV ?_
 refine MV ?_
 refine MW ?_ (v := .int .u64 (X : Int)) (hv := by intro W; go_simp; (try simp only [hx2]))
 refine MW ?_ (v := .int .i64 5)
 refine MW ?_ (v := .int .i64 40)
 refine MW ?_ (v := .int .u64 ((X / 1099511627776 : Nat) : Int)) (hv := by intro W; go_simp; (try omega))
 refine MW ?_ (v := .int .u8 ((u8 (X / 1099511627776)).toNat : Int)) (hv := by intro W; go_simp; (try simp only [u8_cast, IntKind.wrap_u8]); (try omega))
 refine MD 0 ?_
 refine MO (m := [u8 (X / 1099511627776)]) (n := 1) (z := #[.int .u8 ((u8 (X / 1099511627776)).toNat : Int)]) ?_
 intro v16_5
 refine MA 1 (xs := (([] ++ [u8 (X / 72057594037927936)]) ++ [u8 (X / 281474976710656)])) (ys := [u8 (X / 1099511627776)]) (fun W hS => (hS.osl (i := 0) rfl)) (by first | omega | (simp only [List.length_append, List.length_map, List.length_take, List.length_drop, List.length_cons, List.length_nil, lb_length, eI_len, kTx_len, sTx_len]; omega)) ?_
 intro v17_6
 refine MV ?_
 refine MZ fun W hS => ?_
 go_wp2_with fail
 rw [rounds_succ]
 go_upto_region 5 with fail
 refine RL hS ?_
 clear hS
 refine MV ?_
 refine MV ?_
 refine MW ?_ (v := .int .u64 (X : Int)) (hv := by intro W; go_simp; (try simp only [hx2]))
 refine MW ?_ (v := .int .i64 4)
 refine MW ?_ (v := .int .i64 32)
 refine MW ?_ (v := .int .u64 ((X / 4294967296 : Nat) : Int)) (hv := by intro W; go_simp; (try omega))
 refine MW ?_ (v := .int .u8 ((u8 (X / 4294967296)).toNat : Int)) (hv := by intro W; go_simp; (try simp only [u8_cast, IntKind.wrap_u8]); (try omega))
 refine MD 0 ?_
 refine MO (m := [u8 (X / 4294967296)]) (n := 1) (z := #[.int .u8 ((u8 (X / 4294967296)).toNat : Int)]) ?_
 intro v16_7
 refine MA 1 (xs := ((([] ++ [u8 (X / 72057594037927936)]) ++ [u8 (X / 281474976710656)]) ++ [u8 (X / 1099511627776)])) (ys := [u8 (X / 4294967296)]) (fun W hS => (hS.osl (i := 0) rfl)) (by first | omega | (simp only [List.length_append, List.length_map, List.length_take, List.length_drop, List.length_cons, List.length_nil, lb_length, eI_len, kTx_len, sTx_len]; omega)) ?_
 intro v17_8
 refine MV ?_
 refine MZ fun W hS => ?_
 go_wp2_with fail
 rw [rounds_succ]
 go_upto_region 5 with fail
 refine RL hS ?_
 clear hS
 refine MV ?_
 refine MV ?_
 refine MW ?_ (v := .int .u64 (X : Int)) (hv := by intro W; go_simp; (try simp only [hx2]))
 refine MW ?_ (v := .int .i64 3)
 refine MW ?_ (v := .int .i64 24)
 refine MW ?_ (v := .int .u64 ((X / 16777216 : Nat) : Int)) (hv := by intro W; go_simp; (try omega))
 refine MW ?_ (v := .int .u8 ((u8 (X / 16777216)).toNat : Int)) (hv := by intro W; go_simp; (try simp only [u8_cast, IntKind.wrap_u8]); (try omega))
 refine MD 0 ?_
 refine MO (m := [u8 (X / 16777216)]) (n := 1) (z := #[.int .u8 ((u8 (X / 16777216)).toNat : Int)]) ?_
 intro v16_9
 refine MA 1 (xs := (((([] ++ [u8 (X / 72057594037927936)]) ++ [u8 (X / 281474976710656)]) ++ [u8 (X / 1099511627776)]) ++ [u8 (X / 4294967296)])) (ys := [u8 (X / 16777216)]) (fun W hS => (hS.osl (i := 0) rfl)) (by first | omega | (simp only [List.length_append, List.length_map, List.length_take, List.length_drop, List.length_cons, List.length_nil, lb_length, eI_len, kTx_len, sTx_len]; omega)) ?_
 intro v17_10
 refine MV ?_
 refine MZ fun W hS => ?_
 go_wp2_with fail
 rw [rounds_succ]
 go_upto_region 5 with fail
 refine RL hS ?_
 clear hS
 refine MV ?_
 refine MV ?_
 refine MW ?_ (v := .int .u64 (X : Int)) (hv := by intro W; go_simp; (try simp only [hx2]))
 refine MW ?_ (v := .int .i64 2)
 refine MW ?_ (v := .int .i64 16)
 refine MW ?_ (v := .int .u64 ((X / 65536 : Nat) : Int)) (hv := by intro W; go_simp; (try omega))
 refine MW ?_ (v := .int .u8 ((u8 (X / 65536)).toNat : Int)) (hv := by intro W; go_simp; (try simp only [u8_cast, IntKind.wrap_u8]); (try omega))
 refine MD 0 ?_
 refine MO (m := [u8 (X / 65536)]) (n := 1) (z := #[.int .u8 ((u8 (X / 65536)).toNat : Int)]) ?_
 intro v16_11
 refine MA 1 (xs := ((((([] ++ [u8 (X / 72057594037927936)]) ++ [u8 (X / 281474976710656)]) ++ [u8 (X / 1099511627776)]) ++ [u8 (X / 4294967296)]) ++ [u8 (X / 16777216)])) (ys := [u8 (X / 65536)]) (fun W hS => (hS.osl (i := 0) rfl)) (by first | omega | (simp only [List.length_append, List.length_map, List.length_take, List.length_drop, List.length_cons, List.length_nil, lb_length, eI_len, kTx_len, sTx_len]; omega)) ?_
 intro v17_12
 refine MV ?_
 refine MZ fun W hS => ?_
 go_wp2_with fail
 rw [rounds_succ]
 go_upto_region 5 with fail
 refine RL hS ?_
 clear hS
 refine MV ?_
 refine MV ?_
 refine MW ?_ (v := .int .u64 (X : Int)) (hv := by intro W; go_simp; (try simp only [hx2]))
 refine MW ?_ (v := .int .i64 1)
 refine MW ?_ (v := .int .i64 8)
 refine MW ?_ (v := .int .u64 ((X / 256 : Nat) : Int)) (hv := by intro W; go_simp; (try omega))
 refine MW ?_ (v := .int .u8 ((u8 (X / 256)).toNat : Int)) (hv := by intro W; go_simp; (try simp only [u8_cast, IntKind.wrap_u8]); (try omega))
 refine MD 0 ?_
 refine MO (m := [u8 (X / 256)]) (n := 1) (z := #[.int .u8 ((u8 (X / 256)).toNat : Int)]) ?_
 intro v16_13
 refine MA 1 (xs := (((((([] ++ [u8 (X / 72057594037927936)]) ++ [u8 (X / 281474976710656)]) ++ [u8 (X / 1099511627776)]) ++ [u8 (X / 4294967296)]) ++ [u8 (X / 16777216)]) ++ [u8 (X / 65536)])) (ys := [u8 (X / 256)]) (fun W hS => (hS.osl (i := 0) rfl)) (by first | omega | (simp only [List.length_append, List.length_map, List.length_take, List.length_drop, List.length_cons, List.length_nil, lb_length, eI_len, kTx_len, sTx_len]; omega)) ?_
 intro v17_14
 refine MV ?_
 refine MZ fun W hS => ?_
 go_wp2_with fail
 rw [rounds_succ]
 go_upto_region 5 with fail
 refine RL hS ?_
 clear hS
 refine MV ?_
 refine MV ?_
 refine MW ?_ (v := .int .u64 (X : Int)) (hv := by intro W; go_simp; (try simp only [hx2]))
 refine MW ?_ (v := .int .i64 0)
 refine MW ?_ (v := .int .i64 0)
 refine MW ?_ (v := .int .u64 ((X / 1 : Nat) : Int)) (hv := by intro W; go_simp; (try omega))
 refine MW ?_ (v := .int .u8 ((u8 X).toNat : Int)) (hv := by intro W; go_simp; (try simp only [u8_cast, IntKind.wrap_u8]); (try omega))
 refine MD 0 ?_
 refine MO (m := [u8 X]) (n := 1) (z := #[.int .u8 ((u8 X).toNat : Int)]) ?_
 intro v16_15
 refine MA 1 (xs := ((((((([] ++ [u8 (X / 72057594037927936)]) ++ [u8 (X / 281474976710656)]) ++ [u8 (X / 1099511627776)]) ++ [u8 (X / 4294967296)]) ++ [u8 (X / 16777216)]) ++ [u8 (X / 65536)]) ++ [u8 (X / 256)])) (ys := [u8 X]) (fun W hS => (hS.osl (i := 0) rfl)) (by first | omega | (simp only [List.length_append, List.length_map, List.length_take, List.length_drop, List.length_cons, List.length_nil, lb_length, eI_len, kTx_len, sTx_len]; omega)) ?_
 intro v17_16
 refine MV ?_
 refine MZ fun W hS => ?_
 go_wp2_with fail
 rw [rounds_succ]
 go_wp2
 exact bodyPost_ret (v := v17_16) (by simp only [results, Tryz.results47]; go_simp) rfl ⟨_, rfl, by have h_ := hS.pick [1]; exact h_⟩
theorem snumber_i (n : Int) (w : World) : Calls Tryz.prog 47 #[.int .i64 n] w fun e w' => ∃ u, e = .returned u ∧ SH [] w w' [.o u (eI n)] := snumber_c n _ (by omega) w
attribute [local irreducible] eI be8 hs4 lb
theorem sKeyText_c {v : Value} {l : List UInt8} (w : World) (hid : Sl w v l) (hl : l.length ≤ 100000000) :
  Calls Tryz.prog 11 #[v] w fun e w' => ∃ u, e = .returned u ∧ SH [] w w' [.o u (kTx l)] := by
 have hS := SH.nil [] w
 go_enter Tryz.func11, Tryz.ntmps11
 go_upto_region 1 with fail
 refine RL hS ?_
 clear hS
 refine MO (m := [5]) (n := 1) (z := #[.int .u8 5]) ?_
 intro v3_1
 refine MV ?_
 refine MA 0 (xs := [5]) (ys := l) (fun W hS => (sl_e hid hS.ext)) (by first | omega | (simp only [List.length_append, List.length_map, List.length_take, List.length_drop, List.length_cons, List.length_nil, lb_length, eI_len, kTx_len, sTx_len]; omega)) ?_
 intro v5_2
 refine MV ?_
 refine MZ fun W hS => ?_
 go_wp2
 exact bodyPost_ret (v := v5_2) (by simp only [results, Tryz.results11]; go_simp) rfl ⟨_, rfl, (hS.pick [0])⟩
theorem sKey_c {q : Prop} {v : Value} {l : List UInt8} (w : World) (hG : GT q w) (hid : Sl w v l) (hl : l.length ≤ 100000000) :
  Calls Tryz.prog 8 #[v] w fun e w' => Ret (.agg (arrK .u8 32 (byt (hs4 (kTx l))))) w w' e := by
 have hS := SH.nil [] w
 go_enter Tryz.func8, Tryz.ntmps8
 go_upto_region 0 with fail
 refine RL hS ?_
 clear hS
 refine MN (z := arrK .u8 32 (byt 0)) (t := 31) ?_
 intro p2_1
 refine MZ fun W hS => ?_
 go_upto_region 1 with fail
 refine RL hS ?_
 clear hS
 refine MV ?_
 refine ME (V := fun v => v) (fun W hS => ncall hS (sKeyText_c W (sl_e hid hS.ext) (by first | omega | (simp only [List.length_append, List.length_map, List.length_take, List.length_drop, List.length_cons, List.length_nil, lb_length, eI_len, kTx_len, sTx_len]; omega))) (fun _ => ⟨rfl, rfl⟩)) ?_
 intro u4_2
 refine MB (z := #[u4_2]) (t := 22) (n := 1) (c := 1) ?_ (hr := fun W hS => run_bsv [u4_2] rfl rfl (vsc (sl_cells (hS.osl (i := 0) rfl)).1 vs0) Tryz.underlying113 (by kernel_rfl) (by kernel_rfl) rfl (by decide) (by decide))
 intro p5_3
 obtain ⟨U1, hU1⟩ := exn (hs4 ((kTx l)))
 have HU1 := Lib.hid hU1
 clear hU1
 refine MC (v := .agg (arrK .u8 32 (byt U1))) (fun W hS => sumN4_c HU1.out [kTx l] (some ⟨p5_3, 0, none⟩) 1 (by simp only [List.flatten_cons, List.flatten_nil, List.append_nil, List.nil_append, List.append_assoc, List.cons_append]) (by first | omega | (simp only [List.length_append, List.length_map, List.length_take, List.length_drop, List.length_cons, List.length_nil, lb_length, eI_len, kTx_len, sTx_len]; omega)) (by simp) W (pss_blk (hS.blk (i := 0) rfl) (pvc (hS.osl (i := 1) rfl) pv0)) (GS_ext4 hG.1 hS.ext)) ?_
 refine MR 2 ?_ 
 refine MZ fun W hS => ?_
 have e_ := HU1.out
 subst e_
 go_wp2
 exact bodyPost_ret (res_row rfl rfl (hS.blk (i := 2) rfl) (by kernel_rfl) (by rw [arrK_size]; kernel_rfl)) rfl ⟨rfl, hS.ext⟩
theorem sValueText_c {m : Mb} (w : World) (hid : Sl w m.u m.id) :
  Calls Tryz.prog 13 #[.agg (mbF m)] w fun e w' => ∃ u, e = .returned u ∧ SH [] w w' [.o u (vTx m)] := by
 have huc := sl_cells hid
 have hS := SH.nil [] w
 go_enter Tryz.func13, Tryz.ntmps13
 go_upto_region 0 with fail
 refine RL hS ?_
 clear hS
 refine MN (z := agF [.c m.u, .c (.bool m.gone), .c (.int .i64 m.ep), .a 32 m.link]) (t := 25) ?_
 intro p1_1
 refine MV ?_
 refine MZ fun W hS => ?_
 by_cases hg : m.gone = true
 ·
  have _f := hg
  go_upto_region 1 with fail
  refine RL hS ?_
  clear hS
  refine MV ?_
  refine MG 0 ?_ (v := .bool true) (hj := ((agF_cel (off := 1) 1).trans (by rw [hg])))
  refine MZ fun W hS => ?_
  go_upto_region 2 with fail
  refine RL hS ?_
  clear hS
  refine MO (m := [7]) (n := 1) (z := #[.int .u8 7]) ?_
  intro v5_2
  refine MV ?_
  refine MZ fun W hS => ?_
  go_wp2
  exact bodyPost_ret (v := v5_2) (by simp only [results, Tryz.results13]; go_simp) rfl ⟨_, rfl, by unfold vTx; (first | rw [if_pos hg] | rw [if_neg hg]); exact (hS.pick [0])⟩
 ·
  have _f := hg
  have hg2 : m.gone = false := by simpa using hg
  go_upto_region 1 with fail
  refine RL hS ?_
  clear hS
  refine MV ?_
  refine MG 0 ?_ (v := .bool false) (hj := ((agF_cel (off := 1) 1).trans (by rw [hg2])))
  refine MZ fun W hS => ?_
  go_upto_region 3 with fail
  refine RTh (.q 1 (.q 2 (.q 5 (.q 6 (.b 0 (.e 3 (.e 4 (.e 7 (.q 8 .z)))) 3 (.e 0 (.e 4 (.e 7 (.q 8 .z))))))))) hS ?_
  clear hS
  refine TV ?_
  refine TG 0 ?_ (v := .int .i64 m.ep) (hj := (agF_cel (off := 2) 2))
  refine TV ?_
  refine TW ?_ (v := .slice (some ⟨p1_1, 3, none⟩) 32 32)
  refine TB (fun _ h => h) ?_ ?_
  ·
   skip
   refine MO (m := [6]) (n := 1) (z := #[.int .u8 6]) ?_
   intro v6_3
   refine TNp [1] [0] ?_
   refine TE (fun _ h => h.pick [1]) ?_
   refine ME (V := fun v => v) (fun W hS => ncall hS (snumber_i m.ep W) (fun _ => ⟨rfl, rfl⟩)) ?_
   intro u9_4
   refine TNp [0, 2] [1] ?_
   refine TE (fun _ h => h.pick [0, 2]) ?_
   refine MA 1 (xs := [6]) (ys := (eI m.ep)) (fun W hS => (hS.osl (i := 0) rfl)) (by first | omega | (simp only [List.length_append, List.length_map, List.length_take, List.length_drop, List.length_cons, List.length_nil, lb_length, eI_len, kTx_len, sTx_len]; omega)) ?_
   intro v10_5
   refine TNp [0, 2] [0, 1] ?_
   refine TE (fun _ h => h.pick [0, 2]) ?_
   refine MA 1 (xs := ([6] ++ (eI m.ep))) (ys := (lb 32 m.link)) (fun W hS => (sl_part (V := m.link) (n := 32) (off := 3) (c := 32) (hS.blk (i := 2) rfl) (agF_arr (off := 3) 3) (by decide) (by decide))) (by first | omega | (simp only [List.length_append, List.length_map, List.length_take, List.length_drop, List.length_cons, List.length_nil, lb_length, eI_len, kTx_len, sTx_len]; omega)) ?_
   intro v13_6
   refine TNp [0, 1, 2] [0, 2] ?_
   refine TV ?_
   refine TZ (fun _ h => h) fun W hS => ?_
   go_wp2
   exact bodyPost_ret (v := v13_6) (by simp only [results, Tryz.results13]; go_simp) rfl ⟨_, rfl, by unfold vTx; (first | rw [if_pos hg] | rw [if_neg hg]); exact (hS.pick [1])⟩
  ·
   skip
   refine ME (V := fun v => v) (fun W hS => ncall hS (snumber_i m.ep W) (fun _ => ⟨rfl, rfl⟩)) ?_
   intro u9_7
   refine TNp [0, 1] [1] ?_
   refine TE (fun _ h => h) ?_
   refine MO (m := [6]) (n := 1) (z := #[.int .u8 6]) ?_
   intro v6_8
   refine TNp [1, 2] [0, 1] ?_
   refine TE (fun _ h => h.pick [1, 2]) ?_
   refine MA 0 (xs := [6]) (ys := (eI m.ep)) (fun W hS => (hS.osl (i := 1) rfl)) (by first | omega | (simp only [List.length_append, List.length_map, List.length_take, List.length_drop, List.length_cons, List.length_nil, lb_length, eI_len, kTx_len, sTx_len]; omega)) ?_
   intro v10_9
   refine TNp [1, 2] [0, 1] ?_
   refine TE (fun _ h => h.pick [1, 2]) ?_
   refine MA 0 (xs := ([6] ++ (eI m.ep))) (ys := (lb 32 m.link)) (fun W hS => (sl_part (V := m.link) (n := 32) (off := 3) (c := 32) (hS.blk (i := 2) rfl) (agF_arr (off := 3) 3) (by decide) (by decide))) (by first | omega | (simp only [List.length_append, List.length_map, List.length_take, List.length_drop, List.length_cons, List.length_nil, lb_length, eI_len, kTx_len, sTx_len]; omega)) ?_
   intro v13_10
   refine TNp [0, 1, 2] [1, 2] ?_
   refine TV ?_
   refine TZ (fun _ h => h) fun W hS => ?_
   go_wp2
   exact bodyPost_ret (v := v13_10) (by simp only [results, Tryz.results13]; go_simp) rfl ⟨_, rfl, by unfold vTx; (first | rw [if_pos hg] | rw [if_neg hg]); exact (hS.pick [0])⟩
theorem sValue_c {q : Prop} {m : Mb} (w : World) (hG : GT q w) (hid : Sl w m.u m.id) :
  Calls Tryz.prog 9 #[.agg (mbF m)] w fun e w' => Ret (.agg (arrK .u8 32 (byt (hs4 (vTx m))))) w w' e := by
 have huc := sl_cells hid
 have hvl := vTx_len m
 have hS := SH.nil [] w
 go_enter Tryz.func9, Tryz.ntmps9
 go_upto_region 0 with fail
 refine RL hS ?_
 clear hS
 refine MN (z := agF [.c m.u, .c (.bool m.gone), .c (.int .i64 m.ep), .a 32 m.link]) (t := 25) ?_
 intro p1_1
 refine MN (z := arrK .u8 32 (byt 0)) (t := 23) ?_
 intro p2_2
 refine MZ fun W hS => ?_
 go_upto_region 1 with fail
 refine RL hS ?_
 clear hS
 refine ML 1 ?_ (hs := by rw [agF_size]; kernel_rfl)
 refine ME (V := fun v => v) (fun W hS => ncall hS (sValueText_c W (sl_e hid hS.ext)) (fun _ => ⟨rfl, rfl⟩)) ?_
 intro u4_3
 refine MB (z := #[u4_3]) (t := 22) (n := 1) (c := 1) ?_ (hr := fun W hS => run_bsv [u4_3] rfl rfl (vsc (sl_cells (hS.osl (i := 0) rfl)).1 vs0) Tryz.underlying113 (by kernel_rfl) (by kernel_rfl) rfl (by decide) (by decide))
 intro p5_4
 obtain ⟨U1, hU1⟩ := exn (hs4 ((vTx m)))
 have HU1 := Lib.hid hU1
 clear hU1
 refine MC (v := .agg (arrK .u8 32 (byt U1))) (fun W hS => sumN4_c HU1.out [vTx m] (some ⟨p5_4, 0, none⟩) 1 (by simp only [List.flatten_cons, List.flatten_nil, List.append_nil, List.nil_append, List.append_assoc, List.cons_append]) (by first | omega | (simp only [List.length_append, List.length_map, List.length_take, List.length_drop, List.length_cons, List.length_nil, lb_length, eI_len, kTx_len, sTx_len]; omega)) (by simp) W (pss_blk (hS.blk (i := 0) rfl) (pvc (hS.osl (i := 1) rfl) pv0)) (GS_ext4 hG.1 hS.ext)) ?_
 refine MR 2 ?_ 
 refine MZ fun W hS => ?_
 have e_ := HU1.out
 subst e_
 go_wp2
 exact bodyPost_ret (res_row rfl rfl (hS.blk (i := 2) rfl) (by kernel_rfl) (by rw [arrK_size]; kernel_rfl)) rfl ⟨rfl, hS.ext⟩
theorem sText_c (n : Int) (r : Nat) (w : World) :
  Calls Tryz.prog 16 #[.int .i64 n, .agg (arrK .u8 32 (byt r))] w fun e w' => ∃ u, e = .returned u ∧ SH [] w w' [.o u (sTx n r)] := by
 have hS := SH.nil [] w
 go_enter Tryz.func16, Tryz.ntmps16
 go_upto_region 0 with fail
 refine RL hS ?_
 clear hS
 refine MN (z := arrK .u8 32 (byt r)) (t := 23) ?_
 intro p3_1
 refine MV ?_
 refine MZ fun W hS => ?_
 go_upto_region 1 with fail
 refine RTh (.q 1 (.q 4 (.b 0 (.e 2 (.e 3 (.e 5 (.q 6 .z)))) 2 (.e 0 (.e 3 (.e 5 (.q 6 .z))))))) hS ?_
 clear hS
 refine TV ?_
 refine TW ?_ (v := .slice (some ⟨p3_1, 0, none⟩) 32 32)
 refine TB (fun _ h => h) ?_ ?_
 ·
  skip
  refine MO (m := [8]) (n := 1) (z := #[.int .u8 8]) ?_
  intro v5_2
  refine TNp [1] [0] ?_
  refine TE (fun _ h => h.pick [1]) ?_
  refine ME (V := fun v => v) (fun W hS => ncall hS (snumber_i n W) (fun _ => ⟨rfl, rfl⟩)) ?_
  intro u7_3
  refine TNp [0, 2] [1] ?_
  refine TE (fun _ h => h.pick [0, 2]) ?_
  refine MA 1 (xs := [8]) (ys := (eI n)) (fun W hS => (hS.osl (i := 0) rfl)) (by first | omega | (simp only [List.length_append, List.length_map, List.length_take, List.length_drop, List.length_cons, List.length_nil, lb_length, eI_len, kTx_len, sTx_len]; omega)) ?_
  intro v8_4
  refine TNp [0, 2] [0, 1] ?_
  refine TE (fun _ h => h.pick [0, 2]) ?_
  refine MA 1 (xs := ([8] ++ (eI n))) (ys := (lb 32 r)) (fun W hS => (sl_part (V := r) (n := 32) (off := 0) (c := 32) (hS.blk (i := 2) rfl) ap0 (by decide) (by decide))) (by first | omega | (simp only [List.length_append, List.length_map, List.length_take, List.length_drop, List.length_cons, List.length_nil, lb_length, eI_len, kTx_len, sTx_len]; omega)) ?_
  intro v10_5
  refine TNp [0, 1, 2] [0, 2] ?_
  refine TV ?_
  refine TZ (fun _ h => h) fun W hS => ?_
  go_wp2
  exact bodyPost_ret (v := v10_5) (by simp only [results, Tryz.results16]; go_simp) rfl ⟨_, rfl, (hS.pick [1])⟩
 ·
  skip
  refine ME (V := fun v => v) (fun W hS => ncall hS (snumber_i n W) (fun _ => ⟨rfl, rfl⟩)) ?_
  intro u7_6
  refine TNp [0, 1] [1] ?_
  refine TE (fun _ h => h) ?_
  refine MO (m := [8]) (n := 1) (z := #[.int .u8 8]) ?_
  intro v5_7
  refine TNp [1, 2] [0, 1] ?_
  refine TE (fun _ h => h.pick [1, 2]) ?_
  refine MA 0 (xs := [8]) (ys := (eI n)) (fun W hS => (hS.osl (i := 1) rfl)) (by first | omega | (simp only [List.length_append, List.length_map, List.length_take, List.length_drop, List.length_cons, List.length_nil, lb_length, eI_len, kTx_len, sTx_len]; omega)) ?_
  intro v8_8
  refine TNp [1, 2] [0, 1] ?_
  refine TE (fun _ h => h.pick [1, 2]) ?_
  refine MA 0 (xs := ([8] ++ (eI n))) (ys := (lb 32 r)) (fun W hS => (sl_part (V := r) (n := 32) (off := 0) (c := 32) (hS.blk (i := 2) rfl) ap0 (by decide) (by decide))) (by first | omega | (simp only [List.length_append, List.length_map, List.length_take, List.length_drop, List.length_cons, List.length_nil, lb_length, eI_len, kTx_len, sTx_len]; omega)) ?_
  intro v10_9
  refine TNp [0, 1, 2] [1, 2] ?_
  refine TV ?_
  refine TZ (fun _ h => h) fun W hS => ?_
  go_wp2
  exact bodyPost_ret (v := v10_9) (by simp only [results, Tryz.results16]; go_simp) rfl ⟨_, rfl, (hS.pick [0])⟩
theorem dKey_c {q : Prop} (hr : q) {l : List UInt8} (hl : l.length ≤ 100000000) (w : World) (hG : GT q w) :
  Calls Tryz.prog 12 #[str l] w fun e w' => Ret (str (lb 32 (hs4 (kTx l)))) w w' e := by
 have hS := SH.nil [] w
 go_enter Tryz.func12, Tryz.ntmps12
 go_upto_region 1 with fail
 refine RL hS ?_
 clear hS
 refine MV ?_
 refine MW ?_ (v := str ([5] ++ l)) (hv := fun _ => run_cat (l := [5]) (m := l) rfl rfl rfl (by first | omega | (simp only [List.length_append, List.length_map, List.length_take, List.length_drop, List.length_cons, List.length_nil, lb_length, eI_len, kTx_len, sTx_len]; omega)))
 obtain ⟨U1, hU1⟩ := exn (hs4 ([5] ++ l))
 have HU1 := Lib.hid hU1
 clear hU1
 refine MC (v := str (lb 32 U1)) (fun W hS => rsumN4_c HU1.out (by first | omega | (simp only [List.length_append, List.length_map, List.length_take, List.length_drop, List.length_cons, List.length_nil, lb_length, eI_len, kTx_len, sTx_len]; omega)) W (GR_ext4 (hG.2 hr) hS.ext)) ?_
 refine MV ?_
 refine MZ fun W hS => ?_
 go_wp2
 exact bodyPost_ret (v := str (lb 32 U1)) (by simp only [results, Tryz.results12]; go_simp) rfl ⟨(by (try rw [HU1.out]); rfl), hS.ext⟩
theorem dValueText_c {m : Mb} (w : World) :
  Calls Tryz.prog 14 #[.agg (agF [.c (str m.id), .c (.bool m.gone), .c (.int .i64 m.ep), .c (str (lb 32 m.link))])] w fun e w' => Ret (str (vTx m)) w w' e := by
 have hS := SH.nil [] w
 go_enter Tryz.func14, Tryz.ntmps14
 go_upto_region 0 with fail
 refine RL hS ?_
 clear hS
 refine MN (z := agF [.c (str m.id), .c (.bool m.gone), .c (.int .i64 m.ep), .c (str (lb 32 m.link))]) (t := 27) ?_
 intro p1_1
 refine MV ?_
 refine MZ fun W hS => ?_
 by_cases hg : m.gone = true
 ·
  have _f := hg
  go_upto_region 1 with fail
  refine RL hS ?_
  clear hS
  refine MV ?_
  refine MG 0 ?_ (v := .bool true) (hj := ((agF_cel (off := 1) 1).trans (by rw [hg])))
  refine MZ fun W hS => ?_
  go_wp2
  exact bodyPost_ret (v := str [7]) (by simp only [results, Tryz.results14]; first | (go_simp; done) | (go_simp; rfl)) rfl ⟨by first | rw [vTx_t hg] | rw [vTx_f hg], hS.ext⟩
 ·
  have _f := hg
  have hg2 : m.gone = false := by simpa using hg
  go_upto_region 1 with fail
  refine RL hS ?_
  clear hS
  refine MV ?_
  refine MG 0 ?_ (v := .bool false) (hj := ((agF_cel (off := 1) 1).trans (by rw [hg2])))
  refine MZ fun W hS => ?_
  go_upto_region 3 with fail
  refine RTh (.q 0 (.q 1 (.q 4 (.q 5 (.e 2 (.q 3 (.q 6 (.q 7 .z)))))))) hS ?_
  clear hS
  refine TV ?_
  refine TG 0 ?_ (v := .int .i64 m.ep) (hj := (agF_cel (off := 2) 2))
  refine TV ?_
  refine TG 0 ?_ (v := str (lb 32 m.link)) (hj := (agF_cel (off := 3) 3))
  refine TE (fun _ h => h) ?_
  refine MC (v := str (eI m.ep)) (fun W hS => eight_s m.ep W) ?_
  refine TNh (fun W hS => hS) ?_
  refine TW ?_ (v := str ([6] ++ (eI m.ep))) (hv := fun _ => run_cat (l := [6]) (m := (eI m.ep)) rfl rfl rfl (by first | omega | (simp only [List.length_append, List.length_map, List.length_take, List.length_drop, List.length_cons, List.length_nil, lb_length, eI_len, kTx_len, sTx_len]; omega)))
  refine TW ?_ (v := str (([6] ++ (eI m.ep)) ++ (lb 32 m.link))) (hv := fun _ => run_cat (l := ([6] ++ (eI m.ep))) (m := (lb 32 m.link)) rfl rfl rfl (by first | omega | (simp only [List.length_append, List.length_map, List.length_take, List.length_drop, List.length_cons, List.length_nil, lb_length, eI_len, kTx_len, sTx_len]; omega)))
  refine TV ?_
  refine TZ (fun _ h => h) fun W hS => ?_
  go_wp2
  exact bodyPost_ret (v := str (([6] ++ (eI m.ep)) ++ (lb 32 m.link))) (by simp only [results, Tryz.results14]; first | (go_simp; done) | (go_simp; rfl)) rfl ⟨by first | rw [vTx_t hg] | rw [vTx_f hg], hS.ext⟩
theorem dText_c (n : Int) (r : Nat) (w : World) :
  Calls Tryz.prog 17 #[.int .i64 n, str (lb 32 r)] w fun e w' => Ret (str (sTx n r)) w w' e := by
 have hS := SH.nil [] w
 go_enter Tryz.func17, Tryz.ntmps17
 go_upto_region 1 with fail
 refine RL hS ?_
 clear hS
 refine MV ?_
 refine MC (v := str (eI n)) (fun W hS => eight_s n W) ?_
 refine MW ?_ (v := str ([8] ++ (eI n))) (hv := fun _ => run_cat (l := [8]) (m := (eI n)) rfl rfl rfl (by first | omega | (simp only [List.length_append, List.length_map, List.length_take, List.length_drop, List.length_cons, List.length_nil, lb_length, eI_len, kTx_len, sTx_len]; omega)))
 refine MV ?_
 refine MW ?_ (v := str (([8] ++ (eI n)) ++ (lb 32 r))) (hv := fun _ => run_cat (l := ([8] ++ (eI n))) (m := (lb 32 r)) rfl rfl rfl (by first | omega | (simp only [List.length_append, List.length_map, List.length_take, List.length_drop, List.length_cons, List.length_nil, lb_length, eI_len, kTx_len, sTx_len]; omega)))
 refine MV ?_
 refine MZ fun W hS => ?_
 go_wp2
 exact bodyPost_ret (v := str (([8] ++ (eI n)) ++ (lb 32 r))) (by simp only [results, Tryz.results17]; go_simp) rfl ⟨rfl, hS.ext⟩
end Go.Proofs.YtejkmhgkkibafaaGreatDoor
