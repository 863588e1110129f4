/- Trees: the sums of which all is made, the program's and the document's. Conditions: the tables hold their numbers. The cells of the variables that the program reads, as one thing. Conditions: none. What the rows of this seat share: the cells of the variables out of the rows' lists; a world for the witness. No conditions. Trees in memory: what a tree is, Root, Len, one, join. Conditions: the tables hold their numbers. -/
import Derived.Test.YtejkmhgkkibafaaGreatDoorJ25
import Derived.Test.YtejkmhgkkibafaaGreatDoorSqJ
import Derived.Test.YtejkmhgkkibafaaGreatDoorJ22
import Derived.Test.YtejkmhgkkibafaaGreatDoorJ7
import Derived.Test.YtejkmhgkkibafaaGreatDoorCards
import Derived.Test.YtejkmhgkkibafaaGreatDoorTie
import Derived.WalkKit
import Derived.Lib.LaidTab
set_option linter.unusedSimpArgs false
set_option linter.unusedVariables false
namespace Go.Proofs.YtejkmhgkkibafaaGreatDoor
section
set_option maxHeartbeats 1500000
set_option maxRecDepth 100000
open Go.RowKit
attribute [local irreducible] wpList J0k wpX
def GT (hr : Prop) (w : World) : Prop := GS4 w ∧ (hr → GR4 w)
theorem V6 {q : Prop} {w W : World} (h : GT q w) (e : Ext w W) : GT q W := ⟨J1a h.1 e, fun x => J84 (h.2 x) e⟩
def db (d : Int) : List UInt8 := [UInt8.ofNat (d / 256 % 256).toNat, UInt8.ofNat (d % 256).toNat]
theorem dbl (d : Int) : (db d).length = 2 := rfl
theorem Z0e {x : Int} (h0 : 0 ≤ x) (h1 : x < 256) : ((UInt8.ofNat x.toNat).toNat : Int) = x := by rw [UInt8.toNat_ofNat', Nat.mod_eq_of_lt (by omega)]; omega
theorem Z2v (d : Int) : IntKind.wrap .u8 (d / 256) = ((UInt8.ofNat (d / 256 % 256).toNat).toNat : Int) := by rw [Z0e (by omega) (by omega), IntKind.wrap_u8]
theorem Z2w (d : Int) : IntKind.wrap .u8 d = ((UInt8.ofNat (d % 256).toNat).toNat : Int) := by rw [Z0e (by omega) (by omega), IntKind.wrap_u8]
def sE : Nat := hs4 [2]
def sL (k v : Nat) : Nat := hs4 ([0] ++ lb 32 k ++ lb 32 v)
def sN (d : Int) (l r : Nat) : Nat := hs4 ([1] ++ db d ++ lb 32 l ++ lb 32 r)
theorem J3f {H : Nat} {F : List UInt8} (hH : H = hs4 F) (ps : List (List UInt8)) (A : Option Addr) (c : Nat) (hF : ps.flatten = F) (hlen : F.length ≤ 70368744177664) (hpn : ps.length ≤ 9223372036854775000) (w : World) (hps : ∀ i l, ps[i]? = some l → ∃ ad u, A = some ad ∧ w.cell? (ad.add i) = some u ∧ Sl w u l) (hG : GS4 w) :
  Calls Tryz.prog 45 #[.slice A ps.length c] w fun e w' => Ret (.agg (J0 .u8 32 (Q5 H))) w w' e := by
 rw [hH, ← Y74]; exact V06 ps A c F hF hlen hpn w hps hG
theorem J9j {H : Nat} {l : List UInt8} (hH : H = hs4 l) (hlen : l.length ≤ 70368744177664) (w : World) (hG : GR4 w) : Calls Tryz.prog 15 #[str l] w fun e w' => Ret (str (lb 32 H)) w w' e := by
 rw [hH, ← Z2b]; exact Y47 l hlen w hG
attribute [local irreducible] hs4

theorem Z43 {q : Prop} (w : World) (hG : GT q w) :
  Calls Tryz.prog 46 #[] w fun e w' => Ret (.agg (J0 .u8 32 (Q5 sE))) w w' e := by
 have hS := SH.nil [] w
 go_enter Tryz.func46, Tryz.ntmps46
 go_upto_region 0 with fail
 refine RL hS ?_
 clear hS
 refine MN (z := J0 .u8 32 (Q5 0)) (t := 23) ?_
 intro Y2z
 refine MZ fun W hS => ?_
 go_upto_region 1 with fail
 refine RL hS ?_
 clear hS
 refine MO (m := [2]) (n := 1) (z := #[.int .u8 2]) ?_
 intro V42
 refine MB (z := #[V42]) (t := 22) (n := 1) (c := 1) ?_ (hr := fun W hS => J0h [V42] rfl rfl (vsc (V3 (hS.osl (i := 0) rfl)).1 vs0) Tryz.underlying113 (by kernel_rfl) (by kernel_rfl) rfl (by decide) (by decide))
 intro V5z
 obtain ⟨U1, hU1⟩ := exn (hs4 ([2]))
 have HU1 := Lib.hid hU1
 clear hU1
 refine MC (v := .agg (J0 .u8 32 (Q5 U1))) (fun W hS => J3f HU1.out [[2]] (some ⟨V5z, 0, none⟩) 1 (by simp only [List.flatten_cons, List.flatten_nil, List.append_nil, List.nil_append, List.append_assoc, List.cons_append]) (by first | omega | (simp only [List.length_append, List.length_cons, List.length_nil, Q2, dbl]; omega)) (by simp) W (J10 (hS.blk (i := 0) rfl) (pvc (hS.osl (i := 1) rfl) pv0)) (J1a hG.1 hS.ext)) ?_
 refine MR 2 ?_ 
 refine MZ fun W hS => ?_
 have e_ := HU1.out
 subst e_
 go_wp2
 exact bodyPost_ret (Y0 rfl rfl (hS.blk (i := 2) rfl) (by kernel_rfl) (by rw [J2]; kernel_rfl)) rfl ⟨rfl, hS.ext⟩
theorem Z66 {q : Prop} (k v : Nat) (w : World) (hG : GT q w) :
  Calls Tryz.prog 179 #[.agg (lf k v)] w fun e w' => Ret (.agg (J0 .u8 32 (Q5 (sL k v)))) w w' e := by
 have hS := SH.nil [] w
 go_enter Tryz.func179, Tryz.ntmps179
 go_upto_region 0 with fail
 refine RL hS ?_
 clear hS
 refine MN (z := lf k v) (t := 51) ?_
 intro J1m
 refine MN (z := J0 .u8 32 (Q5 0)) (t := 23) ?_
 intro J5o
 refine MZ fun W hS => ?_
 go_upto_region 1 with fail
 refine RTp [1] (.q 1 (.q 2 (.q 3 (.q 4 (.e 0 (.e 5 (.e 6 (.e 7 .z)))))))) hS ?_
 clear hS
 refine TV ?_
 refine TW ?_ (v := .slice (some ⟨J1m, 0, none⟩) 32 32)
 refine TV ?_
 refine TW ?_ (v := .slice (some ⟨J1m, 32, none⟩) 32 32)
 refine TE (fun _ h => h.pick [1]) ?_
 refine MO (m := [0]) (n := 1) (z := #[.int .u8 0]) ?_
 intro V43
 refine TNp [0, 2] [1] ?_
 refine TE (fun _ h => h.pick [0, 2]) ?_
 refine MB (z := #[V43, .slice (some ⟨J1m, 0, none⟩) 32 32, .slice (some ⟨J1m, 32, none⟩) 32 32]) (t := 22) (n := 3) (c := 3) ?_ (hr := fun W hS => J0h [V43, .slice (some ⟨J1m, 0, none⟩) 32 32, .slice (some ⟨J1m, 32, none⟩) 32 32] rfl rfl (vsc (V3 (hS.osl (i := 0) rfl)).1 (vsc rfl (vsc rfl vs0))) Tryz.underlying113 (by kernel_rfl) (by kernel_rfl) rfl (by decide) (by decide))
 intro V60
 refine TNp [0, 1, 3] [1, 2] ?_
 refine TE (fun _ h => h.pick [0, 1, 3]) ?_
 obtain ⟨U1, hU1⟩ := exn (hs4 ([0] ++ (lb 32 k) ++ (lb 32 v)))
 have HU1 := Lib.hid hU1
 clear hU1
 refine MC (v := .agg (J0 .u8 32 (Q5 U1))) (fun W hS => J3f HU1.out [[0], lb 32 k, lb 32 v] (some ⟨V60, 0, none⟩) 3 (by simp only [List.flatten_cons, List.flatten_nil, List.append_nil, List.nil_append, List.append_assoc, List.cons_append]) (by first | omega | (simp only [List.length_append, List.length_cons, List.length_nil, Q2, dbl]; omega)) (by simp) W (J10 (hS.blk (i := 0) rfl) (pvc (hS.osl (i := 1) rfl) (pvc (J03 (V := k) (n := 32) (off := 0) (hS.blk (i := 3) rfl) J4i (by decide) (by decide)) (pvc (J03 (V := v) (n := 32) (off := 32) (hS.blk (i := 3) rfl) Z7q (by decide) (by decide)) pv0)))) (J1a hG.1 hS.ext)) ?_
 refine TNp [0, 1, 3] [0, 1, 2] ?_
 refine TE (fun _ h => h.pick [0, 1, 3]) ?_
 refine MR 2 ?_ 
 refine TNp [0, 1, 3] [0, 1, 2] ?_
 refine TZ (fun _ h => h.pick [0, 1, 3]) fun W hS => ?_
 have e_ := HU1.out
 subst e_
 go_wp2
 exact bodyPost_ret (Y0 rfl rfl (hS.blk (i := 2) rfl) (by kernel_rfl) (by rw [J2]; kernel_rfl)) rfl ⟨rfl, hS.ext⟩
theorem Z67 {q : Prop} (d : Int) (l r : Nat) (w : World) (hG : GT q w) :
  Calls Tryz.prog 181 #[.int .i64 d, .agg (J0 .u8 32 (Q5 l)), .agg (J0 .u8 32 (Q5 r))] w fun e w' => Ret (.agg (J0 .u8 32 (Q5 (sN d l r)))) w w' e := by
 have hS := SH.nil [] w
 go_enter Tryz.func181, Tryz.ntmps181
 go_upto_region 0 with fail
 refine RL hS ?_
 clear hS
 refine MN (z := J0 .u8 32 (Q5 l)) (t := 23) ?_
 intro Q5p
 refine MN (z := J0 .u8 32 (Q5 r)) (t := 23) ?_
 intro J37
 refine MN (z := J0 .u8 32 (Q5 0)) (t := 23) ?_
 intro Z85
 refine MZ fun W hS => ?_
 go_upto_region 1 with fail
 refine RTp [1, 2] (.q 0 (.q 1 (.q 2 (.q 3 (.q 4 (.q 6 (.q 7 (.e 5 (.e 8 (.e 9 (.e 10 .z))))))))))) hS ?_
 clear hS
 refine TV ?_
 refine TW ?_ (v := .int .i64 (d / 256)) (hv := by intro W; exact J0j (n := 8) (by decide) rfl rfl rfl)
 refine TW ?_ (v := .int .u8 ((UInt8.ofNat (d / 256 % 256).toNat).toNat : Int)) (hv := by intro W; rw [← Z2v d]; exact J19 rfl rfl)
 refine TV ?_
 refine TW ?_ (v := .int .u8 ((UInt8.ofNat (d % 256).toNat).toNat : Int)) (hv := by intro W; rw [← Z2w d]; exact J19 rfl rfl)
 refine TW ?_ (v := .slice (some ⟨Q5p, 0, none⟩) 32 32)
 refine TW ?_ (v := .slice (some ⟨J37, 0, none⟩) 32 32)
 refine TE (fun _ h => h.pick [1, 2]) ?_
 refine MO (m := [1, UInt8.ofNat (d / 256 % 256).toNat, UInt8.ofNat (d % 256).toNat]) (n := 3) (z := #[.int .u8 1, .int .u8 ((UInt8.ofNat (d / 256 % 256).toNat).toNat : Int), .int .u8 ((UInt8.ofNat (d % 256).toNat).toNat : Int)]) ?_
 intro Y6i
 refine TNp [0, 2, 3] [1, 2] ?_
 refine TE (fun _ h => h.pick [0, 2, 3]) ?_
 refine MB (z := #[Y6i, .slice (some ⟨Q5p, 0, none⟩) 32 32, .slice (some ⟨J37, 0, none⟩) 32 32]) (t := 22) (n := 3) (c := 3) ?_ (hr := fun W hS => J0h [Y6i, .slice (some ⟨Q5p, 0, none⟩) 32 32, .slice (some ⟨J37, 0, none⟩) 32 32] rfl rfl (vsc (V3 (hS.osl (i := 0) rfl)).1 (vsc rfl (vsc rfl vs0))) Tryz.underlying113 (by kernel_rfl) (by kernel_rfl) rfl (by decide) (by decide))
 intro V44
 refine TNp [0, 1, 3, 4] [1, 2, 3] ?_
 refine TE (fun _ h => h.pick [0, 1, 3, 4]) ?_
 obtain ⟨U1, hU1⟩ := exn (hs4 ([1, UInt8.ofNat (d / 256 % 256).toNat, UInt8.ofNat (d % 256).toNat] ++ (lb 32 l) ++ (lb 32 r)))
 have HU1 := Lib.hid hU1
 clear hU1
 refine MC (v := .agg (J0 .u8 32 (Q5 U1))) (fun W hS => J3f HU1.out [[1, UInt8.ofNat (d / 256 % 256).toNat, UInt8.ofNat (d % 256).toNat], lb 32 l, lb 32 r] (some ⟨V44, 0, none⟩) 3 (by simp only [List.flatten_cons, List.flatten_nil, List.append_nil, List.nil_append, List.append_assoc, List.cons_append]) (by first | omega | (simp only [List.length_append, List.length_cons, List.length_nil, Q2, dbl]; omega)) (by simp) W (J10 (hS.blk (i := 0) rfl) (pvc (hS.osl (i := 1) rfl) (pvc (J03 (V := l) (n := 32) (off := 0) (hS.blk (i := 4) rfl) ap0 (by decide) (by decide)) (pvc (J03 (V := r) (n := 32) (off := 0) (hS.blk (i := 3) rfl) ap0 (by decide) (by decide)) pv0)))) (J1a hG.1 hS.ext)) ?_
 refine TNp [0, 1, 3, 4] [0, 1, 2, 3] ?_
 refine TE (fun _ h => h.pick [0, 1, 3, 4]) ?_
 refine MR 2 ?_ 
 refine TNp [0, 1, 3, 4] [0, 1, 2, 3] ?_
 refine TZ (fun _ h => h.pick [0, 1, 3, 4]) fun W hS => ?_
 have e_ := HU1.out
 subst e_
 go_wp2
 exact bodyPost_ret (Y0 rfl rfl (hS.blk (i := 2) rfl) (by kernel_rfl) (by rw [J2]; kernel_rfl)) rfl ⟨rfl, hS.ext⟩
theorem Y0k {q : Prop} (hr : q) (w : World) (hG : GT q w) :
  Calls Tryz.prog 101 #[] w fun e w' => Ret (str (lb 32 sE)) w w' e := by
 have hS := SH.nil [] w
 go_enter Tryz.func101, Tryz.ntmps101
 go_upto_region 1 with fail
 refine RL hS ?_
 clear hS
 obtain ⟨U1, hU1⟩ := exn (hs4 ([2]))
 have HU1 := Lib.hid hU1
 clear hU1
 refine MC (v := str (lb 32 U1)) (fun W hS => J9j HU1.out (by first | omega | (simp only [List.length_append, List.length_cons, List.length_nil, Q2, dbl]; omega)) W (J84 (hG.2 hr) hS.ext)) ?_
 refine MV ?_
 refine MZ fun W hS => ?_
 go_wp2
 exact bodyPost_ret (v := str (lb 32 U1)) (by simp only [results, Tryz.results101]; go_simp) rfl ⟨(by (try rw [HU1.out]); rfl), hS.ext⟩
theorem Z1u {q : Prop} (hr : q) (k v : Nat) (w : World) (hG : GT q w) :
  Calls Tryz.prog 102 #[.agg (lf k v)] w fun e w' => Ret (str (lb 32 (sL k v))) w w' e := by
 have hS := SH.nil [] w
 go_enter Tryz.func102, Tryz.ntmps102
 go_upto_region 0 with fail
 refine RL hS ?_
 clear hS
 refine MN (z := lf k v) (t := 60) ?_
 intro J1m
 refine MV ?_
 refine MZ fun W hS => ?_
 go_upto_region 1 with fail
 refine RTh (.q 0 (.q 1 (.q 2 (.q 3 (.q 4 (.q 5 (.q 6 (.q 7 (.e 8 (.q 9 .z)))))))))) hS ?_
 clear hS
 refine TV ?_
 refine TW ?_ (v := .slice (some ⟨J1m, 0, none⟩) 32 32)
 refine TF (v := str (lb 32 k)) rfl (fun W hS => J6u (J03 (V := k) (n := 32) (off := 0) (hS.blk (i := 0) rfl) J4i (by decide) (by decide)) rfl rfl) ?_
 refine TW ?_ (v := str ([0] ++ (lb 32 k))) (hv := fun _ => J5w (l := [0]) (m := (lb 32 k)) rfl rfl rfl (by first | omega | (simp only [List.length_append, List.length_cons, List.length_nil, Q2, dbl]; omega)))
 refine TV ?_
 refine TW ?_ (v := .slice (some ⟨J1m, 32, none⟩) 32 32)
 refine TF (v := str (lb 32 v)) rfl (fun W hS => J6u (J03 (V := v) (n := 32) (off := 32) (hS.blk (i := 0) rfl) Z7q (by decide) (by decide)) rfl rfl) ?_
 refine TW ?_ (v := str (([0] ++ (lb 32 k)) ++ (lb 32 v))) (hv := fun _ => J5w (l := ([0] ++ (lb 32 k))) (m := (lb 32 v)) rfl rfl rfl (by first | omega | (simp only [List.length_append, List.length_cons, List.length_nil, Q2, dbl]; omega)))
 refine TE (fun _ h => h) ?_
 obtain ⟨U1, hU1⟩ := exn (hs4 (([0] ++ (lb 32 k)) ++ (lb 32 v)))
 have HU1 := Lib.hid hU1
 clear hU1
 refine MC (v := str (lb 32 U1)) (fun W hS => J9j HU1.out (by first | omega | (simp only [List.length_append, List.length_cons, List.length_nil, Q2, dbl]; omega)) W (J84 (hG.2 hr) hS.ext)) ?_
 refine TNh (fun W hS => hS) ?_
 refine TV ?_
 refine TZ (fun _ h => h) fun W hS => ?_
 go_wp2
 exact bodyPost_ret (v := str (lb 32 U1)) (by simp only [results, Tryz.results102]; go_simp) rfl ⟨(by (try rw [HU1.out]); rfl), hS.ext⟩
theorem Z1v {q : Prop} (hr : q) (d : Int) (l r : Nat) (w : World) (hG : GT q w) :
  Calls Tryz.prog 103 #[.int .i64 d, str (lb 32 l), str (lb 32 r)] w fun e w' => Ret (str (lb 32 (sN d l r))) w w' e := by
 have hS := SH.nil [] w
 go_enter Tryz.func103, Tryz.ntmps103
 go_upto_region 1 with fail
 refine RL hS ?_
 clear hS
 refine MV ?_
 refine MW ?_ (v := .int .i64 (d / 256)) (hv := by intro W; exact J0j (n := 8) (by decide) rfl rfl rfl)
 refine MW ?_ (v := .int .u8 ((UInt8.ofNat (d / 256 % 256).toNat).toNat : Int)) (hv := by intro W; rw [← Z2v d]; exact J19 rfl rfl)
 refine MV ?_
 refine MW ?_ (v := .int .u8 ((UInt8.ofNat (d % 256).toNat).toNat : Int)) (hv := by intro W; rw [← Z2w d]; exact J19 rfl rfl)
 refine MO (m := [UInt8.ofNat (d / 256 % 256).toNat, UInt8.ofNat (d % 256).toNat]) (n := 2) (z := #[.int .u8 ((UInt8.ofNat (d / 256 % 256).toNat).toNat : Int), .int .u8 ((UInt8.ofNat (d % 256).toNat).toNat : Int)]) ?_
 intro V75
 refine MF (v := str [UInt8.ofNat (d / 256 % 256).toNat, UInt8.ofNat (d % 256).toNat]) (fun W hS => J6u (hS.osl (i := 0) rfl) rfl rfl) ?_
 refine MW ?_ (v := str ([1] ++ [UInt8.ofNat (d / 256 % 256).toNat, UInt8.ofNat (d % 256).toNat])) (hv := fun _ => J5w (l := [1]) (m := [UInt8.ofNat (d / 256 % 256).toNat, UInt8.ofNat (d % 256).toNat]) rfl rfl rfl (by first | omega | (simp only [List.length_append, List.length_cons, List.length_nil, Q2, dbl]; omega)))
 refine MV ?_
 refine MW ?_ (v := str (([1] ++ [UInt8.ofNat (d / 256 % 256).toNat, UInt8.ofNat (d % 256).toNat]) ++ (lb 32 l))) (hv := fun _ => J5w (l := ([1] ++ [UInt8.ofNat (d / 256 % 256).toNat, UInt8.ofNat (d % 256).toNat])) (m := (lb 32 l)) rfl rfl rfl (by first | omega | (simp only [List.length_append, List.length_cons, List.length_nil, Q2, dbl]; omega)))
 refine MV ?_
 refine MW ?_ (v := str ((([1] ++ [UInt8.ofNat (d / 256 % 256).toNat, UInt8.ofNat (d % 256).toNat]) ++ (lb 32 l)) ++ (lb 32 r))) (hv := fun _ => J5w (l := (([1] ++ [UInt8.ofNat (d / 256 % 256).toNat, UInt8.ofNat (d % 256).toNat]) ++ (lb 32 l))) (m := (lb 32 r)) rfl rfl rfl (by first | omega | (simp only [List.length_append, List.length_cons, List.length_nil, Q2, dbl]; omega)))
 obtain ⟨U1, hU1⟩ := exn (hs4 ((([1] ++ [UInt8.ofNat (d / 256 % 256).toNat, UInt8.ofNat (d % 256).toNat]) ++ (lb 32 l)) ++ (lb 32 r)))
 have HU1 := Lib.hid hU1
 clear hU1
 refine MC (v := str (lb 32 U1)) (fun W hS => J9j HU1.out (by first | omega | (simp only [List.length_append, List.length_cons, List.length_nil, Q2, dbl]; omega)) W (J84 (hG.2 hr) hS.ext)) ?_
 refine MV ?_
 refine MZ fun W hS => ?_
 go_wp2
 exact bodyPost_ret (v := str (lb 32 U1)) (by simp only [results, Tryz.results103]; go_simp) rfl ⟨(by (try rw [HU1.out]); rfl), hS.ext⟩
end

section
open Go.RowKit
open S8 (Kn GA)
abbrev kn0 : Kn := ⟨True, True, True, False⟩
def GX (w : World) : Prop := GS4 w ∧ GA kn0 w
abbrev gxF : List Nat := [11, 4, 13, 12, 8, 9, 5, 6, 14, 10, 7]
abbrev gx : As := .p gxF GX
theorem Z0m {w : World} (h : GX w) : gx.holds w := by
  obtain ⟨⟨s1, s2⟩, ⟨⟨m1, m2⟩, e1, e2, e3, e4, e5⟩, ⟨r1, r2⟩, ⟨o1, o2, o3, o4, o5⟩, _⟩ := h
  replace e1 : Rd _ _ _ := e1 trivial
  replace e2 := e2 trivial
  replace e3 := e3 trivial
  replace e4 := e4 trivial
  replace e5 := e5 trivial
  refine ⟨⟨⟨s1, s2⟩, ⟨⟨m1, m2⟩, fun _ => e1, fun _ => e2, fun _ => e3, fun _ => e4, fun _ => e5⟩, ⟨r1, r2⟩, ⟨o1, o2, o3, o4, o5⟩, fun h => h.elim⟩, fun k hk => ?_, fun W hs he => ?_⟩
  · simp only [gxF, List.mem_cons, List.not_mem_nil, or_false] at hk
    rcases hk with rfl | rfl | rfl | rfl | rfl | rfl | rfl | rfl | rfl | rfl | rfl
    · exact s1.2
    · exact s2.2
    · exact m1.2
    · exact e1.2
    · exact e2.2
    · exact e3.2
    · exact e4.2
    · exact e5.2
    · exact r1.2
    · exact r2.2
    exact o5
  have c : ∀ j v, w.cell? ⟨7, j, none⟩ = some v → W.cell? ⟨7, j, none⟩ = some v := fun j v h => (World.cell?_of_block (w := w) (he _ (by simp))).trans h
  exact ⟨⟨J3w s1 hs (he _ (by simp)), J3w s2 hs (he _ (by simp))⟩, ⟨⟨J3w m1 hs (he _ (by simp)), trivial⟩, fun _ => J3w e1 hs (he _ (by simp)), fun _ => J3w e2 hs (he _ (by simp)), fun _ => J3w e3 hs (he _ (by simp)), fun _ => J3w e4 hs (he _ (by simp)), fun _ => J3w e5 hs (he _ (by simp))⟩, ⟨J3w r1 hs (he _ (by simp)), J3w r2 hs (he _ (by simp))⟩, ⟨c _ _ o1, c _ _ o2, c _ _ o3, c _ _ o4, Nat.lt_of_lt_of_le o5 hs⟩, fun h => h.elim⟩
theorem GX.gt {w : World} (h : GX w) : GT False w := ⟨h.1, fun x => x.elim⟩
theorem GX.ext {w W : World} (h : GX w) (k : Ext w W) : GX W := ⟨J1a h.1 k, S8.GA_ext h.2 k⟩
theorem GX.of {kn : Kn} {q : Prop} {w : World} (hd : kn.d) (hb : kn.b) (hc : kn.c) (hG : GT q w) (hA : GA kn w) : GX w := ⟨hG.1, ⟨hA.1.1, fun _ => hA.1.2.1 hc, fun _ => hA.1.2.2.1 hc, fun _ => hA.1.2.2.2.1 hd, fun _ => hA.1.2.2.2.2.1 hb, fun _ => hA.1.2.2.2.2.2 hb⟩, hA.2.1, hA.2.2.1, fun h => h.elim⟩
end

section
set_option maxRecDepth 100000
open Go.ChangeShapes Go.WideShapes Go.ChangeAt Go.RowKit Go.Deep
theorem J7 {P : Program} {x : String × DataW Unit} {r : List (String × DataW Unit)} {W : World} (h : laidMet P (x :: r) W) : laidMet P r W := by
  obtain ⟨ps, ⟨g, t, cs, fuel, p, q, _, _, _, _, hv, rfl⟩, hn, hc⟩ := h
  exact ⟨q, hv, (List.nodup_append.1 hn).2.1, fun b off hb => hc b off (List.mem_append_right _ hb)⟩
theorem J1w {W : World} {name : String} {k : IntKind} {zs : List Int} {g : Nat} (h : Lib.TabIs Tryz.prog W name k zs) (hg : Tryz.prog.globalNamed name = some g) (h0 : 0 < zs.length) : Rd W g (zs.map fun z => Value.int k z).toArray := by
  refine ⟨fun j v hj => ?_, World.block_lt_of_cell? W ⟨g, 0, none⟩ (h.cell hg 0 h0)⟩
  rw [List.getElem?_toArray, List.getElem?_map] at hj
  cases hz : zs[j]? with
  | none => rw [hz] at hj; cases hj
  | some z =>
    rw [hz] at hj
    obtain rfl := Option.some.inj hj
    have hl : j < zs.length := by
      rcases Nat.lt_or_ge j zs.length with h | h
      · exact h
      · rw [List.getElem?_eq_none h] at hz; cases hz
    have := h.cell hg j hl
    rwa [List.getD_eq_getElem?_getD, hz] at this
theorem V26 : Tryz.prog.globalNamed "custumal/custumalref01.K" = some 1 := by kernel_rfl
theorem V27 {W : World} {r : List (String × DataW Unit)} (h : laidMet Tryz.prog (("custumal/custumalref01.K", Rows.laid_custumal_custumalref01_K) :: r) W) : Rd W 1 (J0 .i64 64 Z6) :=
  have e : (kk4.map fun z => Value.int .i64 z).toArray = J0 .i64 64 Z6 := by kernel_rfl
  have t : Lib.TabIs Tryz.prog W "custumal/custumalref01.K" .i64 kk4 := Lib.tabIs_of_head (rest := r) V26 (by kernel_rfl) Tryz.underlying100 Tryz.underlying3 (by kernel_rfl) (by kernel_rfl) h
  e ▸ J1w t V26 (by decide)
theorem V28 : Tryz.prog.globalNamed "custumal/custumalref01.H" = some 0 := by kernel_rfl
theorem V29 {W : World} {r : List (String × DataW Unit)} (h : laidMet Tryz.prog (("custumal/custumalref01.H", Rows.laid_custumal_custumalref01_H) :: r) W) : Rd W 0 (J0 .i64 8 hf4) :=
  have e : (hh4.map fun z => Value.int .i64 z).toArray = J0 .i64 8 hf4 := by kernel_rfl
  have t : Lib.TabIs Tryz.prog W "custumal/custumalref01.H" .i64 hh4 := Lib.tabIs_of_head (rest := r) V28 (by kernel_rfl) Tryz.underlying99 Tryz.underlying3 (by kernel_rfl) (by kernel_rfl) h
  e ▸ J1w t V28 (by decide)
theorem V2a : Tryz.prog.globalNamed "custumal/sha2.start" = some 4 := by kernel_rfl
theorem Y58 {W : World} {r : List (String × DataW Unit)} (h : laidMet Tryz.prog (("custumal/sha2.start", Rows.laid_custumal_sha2_start) :: r) W) : Rd W 4 (J0 .u32 8 hf4) :=
  have e : (hh4.map fun z => Value.int .u32 z).toArray = J0 .u32 8 hf4 := by kernel_rfl
  have t : Lib.TabIs Tryz.prog W "custumal/sha2.start" .u32 hh4 := Lib.tabIs_of_head (rest := r) V2a (by kernel_rfl) Tryz.underlying194 Tryz.underlying193 (by kernel_rfl) (by kernel_rfl) h
  e ▸ J1w t V2a (by decide)
theorem V2b : Tryz.prog.globalNamed "custumal/sha2.rounds" = some 11 := by kernel_rfl
theorem Y59 {W : World} {r : List (String × DataW Unit)} (h : laidMet Tryz.prog (("custumal/sha2.rounds", Rows.laid_custumal_sha2_rounds) :: r) W) : Rd W 11 (J0 .u32 64 Z6) :=
  have e : (kk4.map fun z => Value.int .u32 z).toArray = J0 .u32 64 Z6 := by kernel_rfl
  have t : Lib.TabIs Tryz.prog W "custumal/sha2.rounds" .u32 kk4 := Lib.tabIs_of_head (rest := r) V2b (by kernel_rfl) Tryz.underlying231 Tryz.underlying193 (by kernel_rfl) (by kernel_rfl) h
  e ▸ J1w t V2b (by decide)
theorem V2c : Tryz.prog.globalNamed "custumal/sha5.start" = some 10 := by kernel_rfl
theorem V2d {W : World} {r : List (String × DataW Unit)} (h : laidMet Tryz.prog (("custumal/sha5.start", Rows.laid_custumal_sha5_start) :: r) W) : Rd W 10 (J0 .u64 8 hf) :=
  have e : (hh.map fun z => Value.int .u64 z).toArray = J0 .u64 8 hf := by kernel_rfl
  have t : Lib.TabIs Tryz.prog W "custumal/sha5.start" .u64 hh := Lib.tabIs_of_head (rest := r) V2c (by kernel_rfl) Tryz.underlying186 Tryz.underlying71 (by kernel_rfl) (by kernel_rfl) h
  e ▸ J1w t V2c (by decide)
theorem V2e : Tryz.prog.globalNamed "custumal/sha5.rounds" = some 14 := by kernel_rfl
theorem V2f {W : World} {r : List (String × DataW Unit)} (h : laidMet Tryz.prog (("custumal/sha5.rounds", Rows.laid_custumal_sha5_rounds) :: r) W) : Rd W 14 (J0 .u64 80 kf) :=
  have e : (kk.map fun z => Value.int .u64 z).toArray = J0 .u64 80 kf := by kernel_rfl
  have t : Lib.TabIs Tryz.prog W "custumal/sha5.rounds" .u64 kk := Lib.tabIs_of_head (rest := r) V2e (by kernel_rfl) Tryz.underlying187 Tryz.underlying71 (by kernel_rfl) (by kernel_rfl) h
  e ▸ J1w t V2e (by decide)
theorem Y5a : Tryz.prog.globalNamed "custumal/field.modulus" = some 13 := by kernel_rfl
theorem Y7w {W : World} {r : List (String × DataW Unit)} (h : laidMet Tryz.prog (("custumal/field.modulus", Rows.laid_custumal_field_modulus) :: r) W) : Rd W 13 (S8.modC) :=
  have t : Lib.TabIs Tryz.prog W "custumal/field.modulus" .u64 [18446744073709551597, 18446744073709551615, 18446744073709551615, 9223372036854775807] := Lib.tabIs_of_head (rest := r) Y5a (by kernel_rfl) Tryz.underlying155 Tryz.underlying71 (by kernel_rfl) (by kernel_rfl) h
  J1w t Y5a (by decide)
theorem Y5b : Tryz.prog.globalNamed "custumal/field.imaginary" = some 12 := by kernel_rfl
theorem Y7x {W : World} {r : List (String × DataW Unit)} (h : laidMet Tryz.prog (("custumal/field.imaginary", Rows.laid_custumal_field_imaginary) :: r) W) : Rd W 12 (S8.imaC) :=
  have t : Lib.TabIs Tryz.prog W "custumal/field.imaginary" .u64 [14190309331451158704, 3405592160176694392, 3120150775007532967, 3135389899092516619] := Lib.tabIs_of_head (rest := r) Y5b (by kernel_rfl) Tryz.underlying155 Tryz.underlying71 (by kernel_rfl) (by kernel_rfl) h
  J1w t Y5b (by decide)
theorem Y5c : Tryz.prog.globalNamed "custumal/edwards.curve" = some 8 := by kernel_rfl
theorem Y7y {W : World} {r : List (String × DataW Unit)} (h : laidMet Tryz.prog (("custumal/edwards.curve", Rows.laid_custumal_edwards_curve) :: r) W) : Rd W 8 (c4 S8.DD) :=
  have t : Lib.TabIs Tryz.prog W "custumal/edwards.curve" .u64 [8496970652267935907,31536524315187371,10144147576115030168,5909686906226998899] := Lib.tabIs_of_head (rest := r) Y5c (by kernel_rfl) Tryz.underlying155 Tryz.underlying71 (by kernel_rfl) (by kernel_rfl) h
  J1w t Y5c (by decide)
theorem Y5d : Tryz.prog.globalNamed "custumal/edwards.double" = some 9 := by kernel_rfl
theorem Y7z {W : World} {r : List (String × DataW Unit)} (h : laidMet Tryz.prog (("custumal/edwards.double", Rows.laid_custumal_edwards_double) :: r) W) : Rd W 9 (c4 S8.D2) :=
  have t : Lib.TabIs Tryz.prog W "custumal/edwards.double" .u64 [16993941304535871833,63073048630374742,1841551078520508720,2596001775599221991] := Lib.tabIs_of_head (rest := r) Y5d (by kernel_rfl) Tryz.underlying155 Tryz.underlying71 (by kernel_rfl) (by kernel_rfl) h
  J1w t Y5d (by decide)
theorem Y5e : Tryz.prog.globalNamed "custumal/edwards.baseX" = some 5 := by kernel_rfl
theorem Y80 {W : World} {r : List (String × DataW Unit)} (h : laidMet Tryz.prog (("custumal/edwards.baseX", Rows.laid_custumal_edwards_baseX) :: r) W) : Rd W 5 (c4 S8.BX) :=
  have t : Lib.TabIs Tryz.prog W "custumal/edwards.baseX" .u64 [14507833142362363162,7578651490590762930,13881468655802702940,2407515759118799870] := Lib.tabIs_of_head (rest := r) Y5e (by kernel_rfl) Tryz.underlying155 Tryz.underlying71 (by kernel_rfl) (by kernel_rfl) h
  J1w t Y5e (by decide)
theorem Y5f : Tryz.prog.globalNamed "custumal/edwards.baseY" = some 6 := by kernel_rfl
theorem Y81 {W : World} {r : List (String × DataW Unit)} (h : laidMet Tryz.prog (("custumal/edwards.baseY", Rows.laid_custumal_edwards_baseY) :: r) W) : Rd W 6 (c4 S8.BY) :=
  have t : Lib.TabIs Tryz.prog W "custumal/edwards.baseY" .u64 [7378697629483820632,7378697629483820646,7378697629483820646,7378697629483820646] := Lib.tabIs_of_head (rest := r) Y5f (by kernel_rfl) Tryz.underlying155 Tryz.underlying71 (by kernel_rfl) (by kernel_rfl) h
  J1w t Y5f (by decide)
theorem Z7x : Tryz.prog.globalNamed "custumal/scalar.order" = some 7 := by kernel_rfl
theorem V2g {W : World} {r : List (String × DataW Unit)} (h : laidMet Tryz.prog (("custumal/scalar.order", Rows.laid_custumal_scalar_order) :: r) W) : S8.Sc.GL W :=
  have t : Lib.TabIs Tryz.prog W "custumal/scalar.order" .u64 [6346243789798364141, 1503914060200516822, 0, 1152921504606846976] := Lib.tabIs_of_head (rest := r) Z7x (by kernel_rfl) Tryz.underlying153 Tryz.underlying71 (by kernel_rfl) (by kernel_rfl) h
  have h0 := t.cell Z7x 0 (by decide)
  ⟨h0, t.cell Z7x 1 (by decide), t.cell Z7x 2 (by decide), t.cell Z7x 3 (by decide), World.block_lt_of_cell? W _ h0⟩
theorem Q4a {W : World} (h : laidMet Tryz.prog [("custumal/custumalref01.K", Rows.laid_custumal_custumalref01_K), ("custumal/custumalref01.H", Rows.laid_custumal_custumalref01_H), ("custumal/field.modulus", Rows.laid_custumal_field_modulus), ("custumal/field.imaginary", Rows.laid_custumal_field_imaginary), ("custumal/edwards.curve", Rows.laid_custumal_edwards_curve), ("custumal/edwards.double", Rows.laid_custumal_edwards_double), ("custumal/edwards.baseX", Rows.laid_custumal_edwards_baseX), ("custumal/edwards.baseY", Rows.laid_custumal_edwards_baseY), ("custumal/scalar.order", Rows.laid_custumal_scalar_order), ("custumal/sha2.start", Rows.laid_custumal_sha2_start), ("custumal/sha2.rounds", Rows.laid_custumal_sha2_rounds), ("custumal/sha5.start", Rows.laid_custumal_sha5_start), ("custumal/sha5.rounds", Rows.laid_custumal_sha5_rounds)] W) : GT True W := ⟨⟨(Y59 (J7 (J7 (J7 (J7 (J7 (J7 (J7 (J7 (J7 (J7 h))))))))))), (Y58 (J7 (J7 (J7 (J7 (J7 (J7 (J7 (J7 (J7 h))))))))))⟩, fun _ => ⟨(V27 h), (V29 (J7 h))⟩⟩
theorem Q4b {W : World} (h : laidMet Tryz.prog [("custumal/custumalref01.K", Rows.laid_custumal_custumalref01_K), ("custumal/custumalref01.H", Rows.laid_custumal_custumalref01_H), ("custumal/field.modulus", Rows.laid_custumal_field_modulus), ("custumal/field.imaginary", Rows.laid_custumal_field_imaginary), ("custumal/edwards.curve", Rows.laid_custumal_edwards_curve), ("custumal/edwards.double", Rows.laid_custumal_edwards_double), ("custumal/edwards.baseX", Rows.laid_custumal_edwards_baseX), ("custumal/edwards.baseY", Rows.laid_custumal_edwards_baseY), ("custumal/scalar.order", Rows.laid_custumal_scalar_order), ("custumal/sha2.start", Rows.laid_custumal_sha2_start), ("custumal/sha2.rounds", Rows.laid_custumal_sha2_rounds), ("custumal/sha5.start", Rows.laid_custumal_sha5_start), ("custumal/sha5.rounds", Rows.laid_custumal_sha5_rounds)] W) : S8.GA ⟨True, True, True, False⟩ W := ⟨⟨⟨(Y7w (J7 (J7 h))), trivial⟩, fun _ => (Y7x (J7 (J7 (J7 h)))), fun _ => (Y7y (J7 (J7 (J7 (J7 h))))), fun _ => (Y7z (J7 (J7 (J7 (J7 (J7 h)))))), fun _ => (Y80 (J7 (J7 (J7 (J7 (J7 (J7 h))))))), fun _ => (Y81 (J7 (J7 (J7 (J7 (J7 (J7 (J7 h))))))))⟩, ⟨(V2f (J7 (J7 (J7 (J7 (J7 (J7 (J7 (J7 (J7 (J7 (J7 (J7 h))))))))))))), (V2d (J7 (J7 (J7 (J7 (J7 (J7 (J7 (J7 (J7 (J7 (J7 h))))))))))))⟩, (V2g (J7 (J7 (J7 (J7 (J7 (J7 (J7 (J7 h))))))))), fun h => h.elim⟩
theorem Q4c {W : World} (h : laidMet Tryz.prog [("custumal/custumalref01.K", Rows.laid_custumal_custumalref01_K), ("custumal/custumalref01.H", Rows.laid_custumal_custumalref01_H), ("custumal/field.modulus", Rows.laid_custumal_field_modulus), ("custumal/field.imaginary", Rows.laid_custumal_field_imaginary), ("custumal/edwards.curve", Rows.laid_custumal_edwards_curve), ("custumal/edwards.double", Rows.laid_custumal_edwards_double), ("custumal/edwards.baseX", Rows.laid_custumal_edwards_baseX), ("custumal/edwards.baseY", Rows.laid_custumal_edwards_baseY), ("custumal/scalar.order", Rows.laid_custumal_scalar_order), ("custumal/sha2.start", Rows.laid_custumal_sha2_start), ("custumal/sha2.rounds", Rows.laid_custumal_sha2_rounds), ("custumal/sha5.start", Rows.laid_custumal_sha5_start), ("custumal/sha5.rounds", Rows.laid_custumal_sha5_rounds)] W) : GX W := ⟨⟨(Y59 (J7 (J7 (J7 (J7 (J7 (J7 (J7 (J7 (J7 (J7 h))))))))))), (Y58 (J7 (J7 (J7 (J7 (J7 (J7 (J7 (J7 (J7 h))))))))))⟩, Q4b h⟩
theorem V2h (n : Nat) (L : List UInt8) : (List.take (min L.length n) L).length ≤ n := by rw [List.length_take]; omega
def J1n (cs : Array Value) : Obj → Obj
  | .cells _ t frozen => .cells cs t frozen
  | o => o
noncomputable def laidWorld (os : Os) : World := { World.holding Tryz.prog os ⟨#[], #[], []⟩ with heap := ((((((((((((((((World.holding Tryz.prog os ⟨#[], #[], []⟩).heap.modify 1 (J1n (J0 .i64 64 Z6))).modify 0 (J1n (J0 .i64 8 hf4))).modify 3 (J1n (J0 .u64 80 kf))).modify 2 (J1n (J0 .u64 8 hf))).modify 4 (J1n (J0 .u32 8 hf4))).modify 11 (J1n (J0 .u32 64 Z6))).modify 10 (J1n (J0 .u64 8 hf))).modify 14 (J1n (J0 .u64 80 kf))).modify 13 (J1n (S8.modC))).modify 12 (J1n (S8.imaC))).modify 8 (J1n (c4 S8.DD))).modify 9 (J1n (c4 S8.D2))).modify 5 (J1n (c4 S8.BX))).modify 6 (J1n (c4 S8.BY))).modify 7 (J1n (#[.int .u64 6346243789798364141, .int .u64 1503914060200516822, .int .u64 0, .int .u64 1152921504606846976]))) }
end

section
set_option maxHeartbeats 1500000
set_option maxRecDepth 100000
open Go.RowKit
attribute [local irreducible] wpList J0k wpX
inductive TR where
 | nil : TR
 | leaf : Nat → Nat → TR
 | node : Nat → TR → TR → TR
def rs : TR → Nat
 | .nil => sE
 | .leaf k v => sL k v
 | .node d l r => sN (d : Int) (rs l) (rs r)
def cnt : TR → Nat
 | .nil => 0
 | .leaf _ _ => 1
 | .node _ l r => cnt l + cnt r
def ndc (k v : Nat) (s0 s1 : Value) (sp : Bool) (S n : Nat) : Array Value := lf k v ++ (#[s0, s1, .bool sp] ++ (J0 .u8 32 (Q5 S) ++ #[.int .i64 (n : Int)]))
section
variable {k v S n : Nat} {s0 s1 : Value} {sp : Bool}
theorem Y4a : ∀ i u, (lf k v)[i]? = some u → (ndc k v s0 s1 sp S n)[0 + i]? = some u := fun i u h => by rw [Nat.zero_add]; exact J5t h
theorem Q0q : ∀ i u, (J0 .u8 32 (Q5 k))[i]? = some u → (ndc k v s0 s1 sp S n)[0 + i]? = some u := fun i u h => by have := J4i (k := k) (v := v) i u h; rw [Nat.zero_add] at this ⊢; exact J5t this
theorem Y0l {i : Nat} {u : Value} (h : (#[s0, s1, .bool sp] ++ (J0 .u8 32 (Q5 S) ++ #[.int .i64 (n : Int)]))[i]? = some u) : (ndc k v s0 s1 sp S n)[64 + i]? = some u := J8z Q8 h
theorem nd_s0 : (ndc k v s0 s1 sp S n)[64]? = some s0 := Y0l (i := 0) (J5t rfl)
theorem nd_s1 : (ndc k v s0 s1 sp S n)[65]? = some s1 := Y0l (i := 1) (J5t rfl)
theorem J7v : (ndc k v s0 s1 sp S n)[66]? = some (.bool sp) := Y0l (i := 2) (J5t rfl)
theorem V08 : ∀ i u, (J0 .u8 32 (Q5 S))[i]? = some u → (ndc k v s0 s1 sp S n)[67 + i]? = some u := fun i u h => by
 have h1 : (#[s0, s1, Value.bool sp] ++ (J0 .u8 32 (Q5 S) ++ #[.int .i64 (n : Int)]))[3 + i]? = some u := J8z rfl (J5t h)
 have := Y0l (k := k) (v := v) h1
 rw [← Nat.add_assoc] at this; exact this
theorem V61 : (ndc k v s0 s1 sp S n)[99]? = some (.int .i64 (n : Int)) := by
 have h1 : (#[s0, s1, Value.bool sp] ++ (J0 .u8 32 (Q5 S) ++ #[.int .i64 (n : Int)]))[3 + (32 + 0)]? = some (.int .i64 (n : Int)) := J8z rfl (J8z (J2 _ _ _) rfl)
 rw [show (99 : Nat) = 64 + (3 + (32 + 0)) from rfl]; exact Y0l h1
theorem Z0f : ∀ i u, (#[s0, s1] : Array Value)[i]? = some u → (ndc k v s0 s1 sp S n)[64 + i]? = some u := fun i u h => by
 match i, h with
 | 0, h => exact nd_s0.trans h
 | 1, h => exact nd_s1.trans h
 | i + 2, h => simp at h
end
abbrev ptr (b : Nat) : Value := .pointer (some ⟨b, 0, none⟩)
abbrev nlp : Value := .pointer none
def TA (w : World) : TR → Value → Prop
 | .nil, u => u = nlp
 | .leaf k v, u => ∃ b, u = ptr b ∧ Blk w b (ndc k v nlp nlp false (sL k v) 1) 151 ∧ k < 2 ^ 256 ∧ v < 2 ^ 256
 | .node d l r, u => ∃ b s0 s1, u = ptr b ∧ Blk w b (ndc 0 0 s0 s1 true (rs (.node d l r)) (cnt l + cnt r)) 151 ∧ TA w l s0 ∧ TA w r s1
theorem Y0m {w : World} {b : Nat} {cs : Array Value} {t : TypeId} (h : Blk w b cs t) : Q0j w b = some t := by unfold Q0j; rw [show w.heap[b]? = _ from h]
theorem TA.keep {w W : World} (e : ∀ k, k < w.heap.size → Q0j w k = some 151 → W.heap[k]? = w.heap[k]?) : ∀ {T : TR} {u : Value}, TA w T u → TA W T u
 | .nil, _, h => h
 | .leaf k v, _, ⟨b, h1, h2, h3⟩ => ⟨b, h1, (e b (Q7 h2) (Y0m h2)).trans h2, h3⟩
 | .node d l r, _, ⟨b, s0, s1, h1, h2, h3, h4⟩ => ⟨b, s0, s1, h1, (e b (Q7 h2) (Y0m h2)).trans h2, TA.keep e h3, TA.keep e h4⟩
theorem TA.ext {w W : World} {T : TR} {u : Value} (h : TA w T u) (k : Ext w W) : TA W T u := h.keep fun b hb _ => k.block b hb
theorem TA.holds {w : World} {T : TR} {u : Value} (h : TA w T u) : (As.t 151 fun W => TA W T u).holds w := ⟨h, fun _ _ e => h.keep e⟩
theorem TA.one {w : World} {T : TR} {u : Value} (h : TA w T u) : u.cells = #[u] ∧ u.oneCell' = true := by
 cases T with
 | nil => rw [show u = nlp from h]; exact ⟨rfl, rfl⟩
 | leaf k v => obtain ⟨b, rfl, _⟩ := h; exact ⟨rfl, rfl⟩
 | node d l r => obtain ⟨b, s0, s1, rfl, _⟩ := h; exact ⟨rfl, rfl⟩
theorem TA.pt {w : World} {T : TR} {u : Value} (h : TA w T u) : ∃ p, u = .pointer p := by
 cases T with
 | nil => exact ⟨_, h⟩
 | leaf k v => obtain ⟨b, h, _⟩ := h; exact ⟨_, h⟩
 | node d l r => obtain ⟨b, s0, s1, h, _⟩ := h; exact ⟨_, h⟩
theorem TA.blk {w : World} {T : TR} {u : Value} (h : TA w T u) : (T = .nil ∧ u = nlp) ∨ ∃ b k v s0 s1 sp, u = ptr b ∧ Blk w b (ndc k v s0 s1 sp (rs T) (cnt T)) 151 := by
 cases T with
 | nil => exact .inl ⟨rfl, h⟩
 | leaf k v => obtain ⟨b, h1, h2, _⟩ := h; exact .inr ⟨b, k, v, _, _, _, h1, h2⟩
 | node d l r => obtain ⟨b, s0, s1, h1, h2, _⟩ := h; exact .inr ⟨b, 0, 0, s0, s1, _, h1, h2⟩
def J9k (T : TR) (w w' : World) (e : Ending) : Prop := ∃ u, e = .returned u ∧ Ext w w' ∧ TA w' T u
theorem J5i {f : FuncId} {args : Array Value} {F : List Nat} {w W : World} {H : List As} {T : TR} (hS : SH F w W H) (hc : Calls Tryz.prog f args W fun e W' => J9k T W W' e) (ht : H.all (fun y => SH.tyOk y (.t 151 fun _ => True)) = true) :
  Calls Tryz.prog f args W fun e W' => ∃ u, e = .returned u ∧ SH F w W' (.t 151 (fun W => TA W T u) :: H) :=
 hc.mono fun e W' ⟨u, h1, h2, h3⟩ => ⟨u, h1, (hS.grow h2).fact h3.holds ht⟩
attribute [local irreducible] hs4 sE sL sN

theorem Y0n {q : Prop} (w : World) (hG : GT q w) :
  Calls Tryz.prog 51 #[nlp] w fun e w' => Ret (.agg (J0 .u8 32 (Q5 sE))) w w' e := by
 have hS := SH.nil [] w
 go_enter Tryz.func51, Tryz.ntmps51
 go_upto_region 0 with fail
 refine RL hS ?_
 clear hS
 refine MN (z := J0 .u8 32 (Q5 0)) (t := 23) ?_
 intro J0a
 refine MZ fun W hS => ?_
 go_upto_region 2 with fail
 refine RL hS ?_
 clear hS
 obtain ⟨U1, hU1⟩ := exn (sE)
 have HU1 := Lib.hid hU1
 clear hU1
 refine MC (v := .agg (J0 .u8 32 (Q5 U1))) (fun W hS => (by rw [HU1.out]; exact Z43 W (V6 hG hS.ext))) ?_
 refine MR 0 ?_ 
 refine MZ fun W hS => ?_
 have e_ := HU1.out
 subst e_
 go_wp2
 exact bodyPost_ret (Y0 rfl rfl (hS.blk (i := 0) rfl) (by kernel_rfl) (by rw [J2]; kernel_rfl)) rfl ⟨rfl, hS.ext⟩
theorem V09 (w : World) {b k v S n : Nat} {s0 s1 : Value} {sp : Bool} (hB : Blk w b (ndc k v s0 s1 sp S n) 151) :
  Calls Tryz.prog 51 #[ptr b] w fun e w' => Ret (.agg (J0 .u8 32 (Q5 S))) w w' e := by
 have hS := SH.nil [] w
 go_enter Tryz.func51, Tryz.ntmps51
 go_upto_region 0 with fail
 refine RL hS ?_
 clear hS
 refine MN (z := J0 .u8 32 (Q5 0)) (t := 23) ?_
 intro J0a
 refine MZ fun W hS => ?_
 go_upto_region 3 with fail
 refine RL hS ?_
 clear hS
 refine MV ?_
 refine MV ?_
 refine MV ?_
 refine MF (v := .agg (J0 .u8 32 (Q5 S))) (fun W hS => J0o (vs := (J0 .u8 32 (Q5 S)).toList) rfl rfl (fun i v hv => by rw [Q6 (J1 hB hS.ext)]; exact V08 i v (by simpa using hv)) (by kernel_rfl) (by first | kernel_rfl | (simp only [Array.length_toList]; rw [J2]; kernel_rfl))) ?_
 refine MR 0 ?_ 
 refine MZ fun W hS => ?_
 go_wp2
 exact bodyPost_ret (Y0 rfl rfl (hS.blk (i := 0) rfl) (by kernel_rfl) (by rw [J2]; kernel_rfl)) rfl ⟨rfl, hS.ext⟩
theorem Q2b {q : Prop} {T : TR} {u : Value} (w : World) (hG : GT q w) (h : TA w T u) : Calls Tryz.prog 51 #[u] w fun e w' => Ret (.agg (J0 .u8 32 (Q5 (rs T)))) w w' e := by
 rcases h.blk with ⟨rfl, rfl⟩ | ⟨b, k, v, s0, s1, sp, rfl, hB⟩
 ·
  exact Y0n w hG
 exact V09 w hB
theorem Y4b (w : World) :
  Calls Tryz.prog 182 #[nlp] w fun e w' => Ret (.int .i64 ((0 : Nat) : Int)) w w' e := by
 have hS := SH.nil [] w
 go_enter Tryz.func182, Tryz.ntmps182
 go_wp2
 exact bodyPost_ret (v := .int .i64 0) (by simp only [results, Tryz.results182]; go_simp) rfl ⟨rfl, hS.ext⟩
theorem V45 (w : World) {b k v S n : Nat} {s0 s1 : Value} {sp : Bool} (hB : Blk w b (ndc k v s0 s1 sp S n) 151) :
  Calls Tryz.prog 182 #[ptr b] w fun e w' => Ret (.int .i64 (n : Int)) w w' e := by
 have hS := SH.nil [] w
 go_enter Tryz.func182, Tryz.ntmps182
 go_upto_region 3 with fail
 refine RL hS ?_
 clear hS
 refine MV ?_
 refine MV ?_
 refine MV ?_
 refine MF (v := .int .i64 (n : Int)) (fun W hS => V2 rfl rfl (by rw [Q6 (J1 hB hS.ext)]; exact V61) (by kernel_rfl)) ?_
 refine MV ?_
 refine MZ fun W hS => ?_
 go_wp2
 exact bodyPost_ret (v := .int .i64 (n : Int)) (by simp only [results, Tryz.results182]; go_simp) rfl ⟨rfl, hS.ext⟩
theorem Y6j {T : TR} {u : Value} (w : World) (h : TA w T u) : Calls Tryz.prog 182 #[u] w fun e w' => Ret (.int .i64 (cnt T : Int)) w w' e := by
 rcases h.blk with ⟨rfl, rfl⟩ | ⟨b, k, v, s0, s1, sp, rfl, hB⟩
 ·
  exact Y4b w
 exact V45 w hB
theorem Y0o {q : Prop} {k v : Nat} (hk : k < 2 ^ 256) (hv : v < 2 ^ 256) (w : World) (hG : GT q w) :
  Calls Tryz.prog 161 #[.agg (lf k v)] w fun e w' => J9k (.leaf k v) w w' e := by
 have hS := SH.nil [] w
 go_enter Tryz.func161, Tryz.ntmps161
 go_upto_region 0 with fail
 refine RL hS ?_
 clear hS
 refine MN (z := lf k v) (t := 51) ?_
 intro J1m
 refine MV ?_
 refine MZ fun W hS => ?_
 go_upto_region 1 with fail
 refine RTh (.q 0 (.q 1 (.e 2 (.q 3 (.e 4 (.q 5 .z)))))) hS ?_
 clear hS
 refine TL 0 ?_ (hs := by rw [Q8]; kernel_rfl)
 refine TL 0 ?_ (hs := by rw [Q8]; kernel_rfl)
 refine TE (fun _ h => h) ?_
 obtain ⟨U1, hU1⟩ := exn (sL k v)
 have HU1 := Lib.hid hU1
 clear hU1
 refine MC (v := .agg (J0 .u8 32 (Q5 U1))) (fun W hS => (by rw [HU1.out]; exact Z66 k v W (V6 hG hS.ext))) ?_
 refine TNh (fun W hS => hS) ?_
 refine TW ?_ (v := .agg (ndc k v nlp nlp false U1 1)) (hv := by intro W; first | rfl | kernel_rfl)
 refine TE (fun _ h => h) ?_
 refine MN (z := ndc k v nlp nlp false U1 1) (t := 151) ?_ (hr := by intro w; kernel_rfl)
 intro Q19
 refine TNh (fun W hS => hS.pick [1]) ?_
 refine TV ?_
 refine TZ (fun _ h => h) fun W hS => ?_
 have e_ := HU1.out
 subst e_
 go_wp2
 exact bodyPost_ret (v := ptr Q19) (by simp only [results, Tryz.results161]; go_simp) rfl ⟨_, rfl, hS.ext, ⟨_, rfl, (hS.blk (i := 0) rfl), hk, hv⟩⟩
theorem V0a {q : Prop} {L R : TR} {pa pb : Option Addr} (d : Nat) (hn : cnt L + cnt R < 4611686018427387904) (w : World) (hG : GT q w) (hl : TA w L (.pointer pa)) (hr_ : TA w R (.pointer pb)) :
  Calls Tryz.prog 163 #[.int .i64 (d : Int), .pointer pa, .pointer pb] w fun e w' => J9k (.node d L R) w w' e := by
 have hS := SH.nil [] w
 go_enter Tryz.func163, Tryz.ntmps163
 go_upto_region 1 with fail
 refine RL hS ?_
 clear hS
 refine MV ?_
 refine MV ?_
 refine MW ?_ (v := .agg #[.pointer pa, .pointer pb]) (hv := by intro W; first | rfl | kernel_rfl)
 refine MV ?_
 refine MV ?_
 refine MC (v := .agg (J0 .u8 32 (Q5 (rs L)))) (fun W hS => Q2b W (V6 hG hS.ext) (TA.ext hl hS.ext)) ?_
 refine MV ?_
 refine MC (v := .agg (J0 .u8 32 (Q5 (rs R)))) (fun W hS => Q2b W (V6 hG hS.ext) (TA.ext hr_ hS.ext)) ?_
 obtain ⟨U1, hU1⟩ := exn (sN (d : Int) (rs L) (rs R))
 have HU1 := Lib.hid hU1
 clear hU1
 refine MC (v := .agg (J0 .u8 32 (Q5 U1))) (fun W hS => (by rw [HU1.out]; exact Z67 (d : Int) (rs L) (rs R) W (V6 hG hS.ext))) ?_
 refine MV ?_
 refine MC (v := .int .i64 (cnt L : Int)) (fun W hS => Y6j W (TA.ext hl hS.ext)) ?_
 refine MV ?_
 refine MC (v := .int .i64 (cnt R : Int)) (fun W hS => Y6j W (TA.ext hr_ hS.ext)) ?_
 refine MW ?_ (v := .int .i64 ((cnt L + cnt R : Nat) : Int)) (hv := by intro W; go_simp; (try simp only [IntKind.wrap_i64]); omega)
 refine MW ?_ (v := .agg (ndc 0 0 (.pointer pa) (.pointer pb) true U1 (cnt L + cnt R))) (hv := by intro W; first | rfl | kernel_rfl)
 refine MN (z := ndc 0 0 (.pointer pa) (.pointer pb) true U1 (cnt L + cnt R)) (t := 151) ?_ (hr := by intro w; kernel_rfl)
 intro V46
 refine MV ?_
 refine MZ fun W hS => ?_
 have e_ := HU1.out
 subst e_
 go_wp2
 exact bodyPost_ret (v := ptr V46) (by simp only [results, Tryz.results163]; go_simp) rfl ⟨_, rfl, hS.ext, ⟨_, _, _, rfl, (hS.blk (i := 0) rfl), hl.ext hS.ext, hr_.ext hS.ext⟩⟩
theorem J9l {q : Prop} {L R : TR} {a b : Value} (d : Nat) (hn : cnt L + cnt R < 4611686018427387904) (w : World) (hG : GT q w) (hl : TA w L a) (hr_ : TA w R b) :
  Calls Tryz.prog 163 #[.int .i64 (d : Int), a, b] w fun e w' => J9k (.node d L R) w w' e := by
 obtain ⟨pa, rfl⟩ := hl.pt
 obtain ⟨pb, rfl⟩ := hr_.pt
 exact V0a d hn w hG hl hr_
end
end Go.Proofs.YtejkmhgkkibafaaGreatDoor
