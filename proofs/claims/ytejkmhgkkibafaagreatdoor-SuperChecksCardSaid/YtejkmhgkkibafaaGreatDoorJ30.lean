/- Contracts and plain laws that superChecks_holds rests on. Conditions: the variables' cells hold the numbers of the program's text. -/
import Derived.Test.YtejkmhgkkibafaaGreatDoorJ29
import Derived.Test.YtejkmhgkkibafaaGreatDoorJ26
import Derived.Test.YtejkmhgkkibafaaGreatDoorJ6
import Derived.Test.YtejkmhgkkibafaaGreatDoorCards
import Derived.Test.YtejkmhgkkibafaaGreatDoorTie
import Derived.WalkKit
import Derived.Lib.LaidTab
import Derived.Test.YtejkmhgkkibafaaGreatDoorGc
import Derived.Test.YtejkmhgkkibafaaGreatDoorJ28
import Derived.Test.YtejkmhgkkibafaaGreatDoorJ8
open Go.RowKit
set_option maxRecDepth 100000
set_option linter.unusedSimpArgs false
set_option linter.unusedVariables false
namespace Go.Proofs.YtejkmhgkkibafaaGreatDoor
section
set_option maxHeartbeats 1500000
attribute [local irreducible] wpList U0 wpX
def GT (hr : Prop) (w : World) : Prop := GS4 w ∧ (hr → GR4 w)
theorem J08 {q : Prop} {w W : World} (h : GT q w) (e : Ext w W) : GT q W := ⟨J2b h.1 e, fun x => Z9p (h.2 x) e⟩
def db (d : Int) : List UInt8 := [UInt8.ofNat (d / 256 % 256).toNat, UInt8.ofNat (d % 256).toNat]
theorem dbl (d : Int) : (db d).length = 2 := rfl
theorem Q84 {x : Int} (h0 : 0 ≤ x) (h1 : x < 256) : ((UInt8.ofNat x.toNat).toNat : Int) = x := by rw [UInt8.toNat_ofNat', Nat.mod_eq_of_lt (by omega)]; omega
theorem V1p (d : Int) : IntKind.wrap .u8 (d / 256) = ((UInt8.ofNat (d / 256 % 256).toNat).toNat : Int) := by rw [Q84 (by omega) (by omega), IntKind.wrap_u8]
theorem V1q (d : Int) : IntKind.wrap .u8 d = ((UInt8.ofNat (d % 256).toNat).toNat : Int) := by rw [Q84 (by omega) (by omega), IntKind.wrap_u8]
def sE : Nat := hs4 [2]
def sL (k v : Nat) : Nat := hs4 ([0] ++ lb 32 k ++ lb 32 v)
def sN (d : Int) (l r : Nat) : Nat := hs4 ([1] ++ db d ++ lb 32 l ++ lb 32 r)
theorem J5a {H : Nat} {F : List UInt8} (hH : H = hs4 F) (ps : List (List UInt8)) (A : Option Addr) (c : Nat) (hF : ps.flatten = F) (hlen : F.length ≤ 70368744177664) (hpn : ps.length ≤ 9223372036854775000) (w : World) (hps : ∀ i l, ps[i]? = some l → ∃ ad u, A = some ad ∧ w.cell? (ad.add i) = some u ∧ Sl w u l) (hG : GS4 w) :
  Calls Tryz.prog 45 #[.slice A ps.length c] w fun e w' => K7 (.agg (J0 .u8 32 (Q3 H))) w w' e := by
 rw [hH, ← Y5r]; exact Y8c ps A c F hF hlen hpn w hps hG
attribute [local irreducible] hs4

theorem Z1y {q : Prop} (w : World) (hG : GT q w) :
  Calls Tryz.prog 46 #[] w fun e w' => K7 (.agg (J0 .u8 32 (Q3 sE))) w w' e := by
 have hS := SH.nil [] w
 go_enter Tryz.func46, Tryz.ntmps46
 go_upto_region 0 with fail
 refine RL hS ?_
 clear hS
 refine MN (z := J0 .u8 32 (Q3 0)) (t := 23) ?_
 intro N
 refine MZ fun W hS => ?_
 go_upto_region 1 with fail
 refine RL hS ?_
 clear hS
 refine MO (m := [2]) (n := 1) (z := #[.int .u8 2]) ?_
 intro G
 refine MB (z := #[G]) (t := 22) (n := 1) (c := 1) ?_ (hr := fun W hS => J2k [G] rfl rfl (vsc (K6 (hS.osl (i := 0) rfl)).1 vs0) Tryz.underlying113 (by kernel_rfl) (by kernel_rfl) rfl (by decide) (by decide))
 intro M
 obtain ⟨U1, J⟩ := V3 (hs4 ([2]))
 have D := Lib.hid J
 clear J
 refine MC (v := .agg (J0 .u8 32 (Q3 U1))) (fun W hS => J5a D.out [[2]] (some ⟨M, 0, none⟩) 1 (by simp only [List.flatten_cons, List.flatten_nil, List.append_nil, List.nil_append, List.append_assoc, List.cons_append]) (by first | omega | (simp only [List.length_append, List.length_cons, List.length_nil, J8, dbl]; omega)) (by simp) W (J1z (hS.blk (i := 0) rfl) (pvc (hS.osl (i := 1) rfl) pv0)) (J2b hG.1 hS.ext)) ?_
 refine MR 2 ?_ 
 refine MZ fun W hS => ?_
 have e_ := D.out
 subst e_
 go_wp2
 exact bodyPost_ret (Z6 rfl rfl (hS.blk (i := 2) rfl) (by kernel_rfl) (by rw [J1]; kernel_rfl)) rfl ⟨rfl, hS.ext⟩
theorem Z47 {q : Prop} (k v : Nat) (w : World) (hG : GT q w) :
  Calls Tryz.prog 179 #[.agg (lf k v)] w fun e w' => K7 (.agg (J0 .u8 32 (Q3 (sL k v)))) w w' e := by
 have hS := SH.nil [] w
 go_enter Tryz.func179, Tryz.ntmps179
 go_upto_region 0 with fail
 refine RL hS ?_
 clear hS
 refine MN (z := lf k v) (t := 51) ?_
 intro D
 refine MN (z := J0 .u8 32 (Q3 0)) (t := 23) ?_
 intro R
 refine MZ fun W hS => ?_
 go_upto_region 1 with fail
 refine RTp [1] (.q 1 (.q 2 (.q 3 (.q 4 (.e 0 (.e 5 (.e 6 (.e 7 .z)))))))) hS ?_
 clear hS
 refine TV ?_
 refine TW ?_ (v := .slice (some ⟨D, 0, none⟩) 32 32)
 refine TV ?_
 refine TW ?_ (v := .slice (some ⟨D, 32, none⟩) 32 32)
 refine TE (fun _ h => h.pick [1]) ?_
 refine MO (m := [0]) (n := 1) (z := #[.int .u8 0]) ?_
 intro G
 refine TNp [0, 2] [1] ?_
 refine TE (fun _ h => h.pick [0, 2]) ?_
 refine MB (z := #[G, .slice (some ⟨D, 0, none⟩) 32 32, .slice (some ⟨D, 32, none⟩) 32 32]) (t := 22) (n := 3) (c := 3) ?_ (hr := fun W hS => J2k [G, .slice (some ⟨D, 0, none⟩) 32 32, .slice (some ⟨D, 32, none⟩) 32 32] rfl rfl (vsc (K6 (hS.osl (i := 0) rfl)).1 (vsc rfl (vsc rfl vs0))) Tryz.underlying113 (by kernel_rfl) (by kernel_rfl) rfl (by decide) (by decide))
 intro N
 refine TNp [0, 1, 3] [1, 2] ?_
 refine TE (fun _ h => h.pick [0, 1, 3]) ?_
 obtain ⟨U1, M⟩ := V3 (hs4 ([0] ++ (lb 32 k) ++ (lb 32 v)))
 have J := Lib.hid M
 clear M
 refine MC (v := .agg (J0 .u8 32 (Q3 U1))) (fun W hS => J5a J.out [[0], lb 32 k, lb 32 v] (some ⟨N, 0, none⟩) 3 (by simp only [List.flatten_cons, List.flatten_nil, List.append_nil, List.nil_append, List.append_assoc, List.cons_append]) (by first | omega | (simp only [List.length_append, List.length_cons, List.length_nil, J8, dbl]; omega)) (by simp) W (J1z (hS.blk (i := 0) rfl) (pvc (hS.osl (i := 1) rfl) (pvc (K0 (V := k) (n := 32) (off := 0) (hS.blk (i := 3) rfl) Z30 (by decide) (by decide)) (pvc (K0 (V := v) (n := 32) (off := 32) (hS.blk (i := 3) rfl) V3d (by decide) (by decide)) pv0)))) (J2b hG.1 hS.ext)) ?_
 refine TNp [0, 1, 3] [0, 1, 2] ?_
 refine TE (fun _ h => h.pick [0, 1, 3]) ?_
 refine MR 2 ?_ 
 refine TNp [0, 1, 3] [0, 1, 2] ?_
 refine TZ (fun _ h => h.pick [0, 1, 3]) fun W hS => ?_
 have e_ := J.out
 subst e_
 go_wp2
 exact bodyPost_ret (Z6 rfl rfl (hS.blk (i := 2) rfl) (by kernel_rfl) (by rw [J1]; kernel_rfl)) rfl ⟨rfl, hS.ext⟩
theorem Z48 {q : Prop} (d : Int) (l r : Nat) (w : World) (hG : GT q w) :
  Calls Tryz.prog 181 #[.int .i64 d, .agg (J0 .u8 32 (Q3 l)), .agg (J0 .u8 32 (Q3 r))] w fun e w' => K7 (.agg (J0 .u8 32 (Q3 (sN d l r)))) w w' e := by
 have hS := SH.nil [] w
 go_enter Tryz.func181, Tryz.ntmps181
 go_upto_region 0 with fail
 refine RL hS ?_
 clear hS
 refine MN (z := J0 .u8 32 (Q3 l)) (t := 23) ?_
 intro G
 refine MN (z := J0 .u8 32 (Q3 r)) (t := 23) ?_
 intro D
 refine MN (z := J0 .u8 32 (Q3 0)) (t := 23) ?_
 intro S
 refine MZ fun W hS => ?_
 go_upto_region 1 with fail
 refine RTp [1, 2] (.q 0 (.q 1 (.q 2 (.q 3 (.q 4 (.q 6 (.q 7 (.e 5 (.e 8 (.e 9 (.e 10 .z))))))))))) hS ?_
 clear hS
 refine TV ?_
 refine TW ?_ (v := .int .i64 (d / 256)) (hv := by intro W; exact Q3z (n := 8) (by decide) rfl rfl rfl)
 refine TW ?_ (v := .int .u8 ((UInt8.ofNat (d / 256 % 256).toNat).toNat : Int)) (hv := by intro W; rw [← V1p d]; exact Q51 rfl rfl)
 refine TV ?_
 refine TW ?_ (v := .int .u8 ((UInt8.ofNat (d % 256).toNat).toNat : Int)) (hv := by intro W; rw [← V1q d]; exact Q51 rfl rfl)
 refine TW ?_ (v := .slice (some ⟨G, 0, none⟩) 32 32)
 refine TW ?_ (v := .slice (some ⟨D, 0, none⟩) 32 32)
 refine TE (fun _ h => h.pick [1, 2]) ?_
 refine MO (m := [1, UInt8.ofNat (d / 256 % 256).toNat, UInt8.ofNat (d % 256).toNat]) (n := 3) (z := #[.int .u8 1, .int .u8 ((UInt8.ofNat (d / 256 % 256).toNat).toNat : Int), .int .u8 ((UInt8.ofNat (d % 256).toNat).toNat : Int)]) ?_
 intro J
 refine TNp [0, 2, 3] [1, 2] ?_
 refine TE (fun _ h => h.pick [0, 2, 3]) ?_
 refine MB (z := #[J, .slice (some ⟨G, 0, none⟩) 32 32, .slice (some ⟨D, 0, none⟩) 32 32]) (t := 22) (n := 3) (c := 3) ?_ (hr := fun W hS => J2k [J, .slice (some ⟨G, 0, none⟩) 32 32, .slice (some ⟨D, 0, none⟩) 32 32] rfl rfl (vsc (K6 (hS.osl (i := 0) rfl)).1 (vsc rfl (vsc rfl vs0))) Tryz.underlying113 (by kernel_rfl) (by kernel_rfl) rfl (by decide) (by decide))
 intro R
 refine TNp [0, 1, 3, 4] [1, 2, 3] ?_
 refine TE (fun _ h => h.pick [0, 1, 3, 4]) ?_
 obtain ⟨U1, N⟩ := V3 (hs4 ([1, UInt8.ofNat (d / 256 % 256).toNat, UInt8.ofNat (d % 256).toNat] ++ (lb 32 l) ++ (lb 32 r)))
 have M := Lib.hid N
 clear N
 refine MC (v := .agg (J0 .u8 32 (Q3 U1))) (fun W hS => J5a M.out [[1, UInt8.ofNat (d / 256 % 256).toNat, UInt8.ofNat (d % 256).toNat], lb 32 l, lb 32 r] (some ⟨R, 0, none⟩) 3 (by simp only [List.flatten_cons, List.flatten_nil, List.append_nil, List.nil_append, List.append_assoc, List.cons_append]) (by first | omega | (simp only [List.length_append, List.length_cons, List.length_nil, J8, dbl]; omega)) (by simp) W (J1z (hS.blk (i := 0) rfl) (pvc (hS.osl (i := 1) rfl) (pvc (K0 (V := l) (n := 32) (off := 0) (hS.blk (i := 4) rfl) ap0 (by decide) (by decide)) (pvc (K0 (V := r) (n := 32) (off := 0) (hS.blk (i := 3) rfl) ap0 (by decide) (by decide)) pv0)))) (J2b hG.1 hS.ext)) ?_
 refine TNp [0, 1, 3, 4] [0, 1, 2, 3] ?_
 refine TE (fun _ h => h.pick [0, 1, 3, 4]) ?_
 refine MR 2 ?_ 
 refine TNp [0, 1, 3, 4] [0, 1, 2, 3] ?_
 refine TZ (fun _ h => h.pick [0, 1, 3, 4]) fun W hS => ?_
 have e_ := M.out
 subst e_
 go_wp2
 exact bodyPost_ret (Z6 rfl rfl (hS.blk (i := 2) rfl) (by kernel_rfl) (by rw [J1]; kernel_rfl)) rfl ⟨rfl, hS.ext⟩
end

section
open S8 (Kn GA)
abbrev kn0 : Kn := ⟨True, True, True, False⟩
def GX (w : World) : Prop := GS4 w ∧ GA kn0 w
abbrev gxF : List Nat := [11, 4, 13, 12, 8, 9, 5, 6, 14, 10, 7]
abbrev gx : As := .p gxF GX
theorem Q8b {w : World} (h : GX w) : gx.holds w := by
  obtain ⟨⟨s1, s2⟩, ⟨⟨m1, m2⟩, e1, e2, e3, e4, e5⟩, ⟨r1, r2⟩, ⟨o1, o2, o3, o4, o5⟩, _⟩ := h
  replace e1 : Rd _ _ _ := e1 trivial
  replace e2 := e2 trivial
  replace e3 := e3 trivial
  replace e4 := e4 trivial
  replace e5 := e5 trivial
  refine ⟨⟨⟨s1, s2⟩, ⟨⟨m1, m2⟩, fun _ => e1, fun _ => e2, fun _ => e3, fun _ => e4, fun _ => e5⟩, ⟨r1, r2⟩, ⟨o1, o2, o3, o4, o5⟩, fun h => h.elim⟩, fun k hk => ?_, fun W hs he => ?_⟩
  · simp only [gxF, List.mem_cons, List.not_mem_nil, or_false] at hk
    rcases hk with rfl | rfl | rfl | rfl | rfl | rfl | rfl | rfl | rfl | rfl | rfl
    · exact s1.2
    · exact s2.2
    · exact m1.2
    · exact e1.2
    · exact e2.2
    · exact e3.2
    · exact e4.2
    · exact e5.2
    · exact r1.2
    · exact r2.2
    exact o5
  have c : ∀ j v, w.cell? ⟨7, j, none⟩ = some v → W.cell? ⟨7, j, none⟩ = some v := fun j v h => (World.cell?_of_block (w := w) (he _ (by simp))).trans h
  exact ⟨⟨J2v s1 hs (he _ (by simp)), J2v s2 hs (he _ (by simp))⟩, ⟨⟨J2v m1 hs (he _ (by simp)), trivial⟩, fun _ => J2v e1 hs (he _ (by simp)), fun _ => J2v e2 hs (he _ (by simp)), fun _ => J2v e3 hs (he _ (by simp)), fun _ => J2v e4 hs (he _ (by simp)), fun _ => J2v e5 hs (he _ (by simp))⟩, ⟨J2v r1 hs (he _ (by simp)), J2v r2 hs (he _ (by simp))⟩, ⟨c _ _ o1, c _ _ o2, c _ _ o3, c _ _ o4, Nat.lt_of_lt_of_le o5 hs⟩, fun h => h.elim⟩
theorem GX.gt {w : World} (h : GX w) : GT False w := ⟨h.1, fun x => x.elim⟩
theorem GX.ext {w W : World} (h : GX w) (k : Ext w W) : GX W := ⟨J2b h.1 k, S8.GA_ext h.2 k⟩
theorem GX.of {kn : Kn} {q : Prop} {w : World} (hd : kn.d) (hb : kn.b) (hc : kn.c) (hG : GT q w) (hA : GA kn w) : GX w := ⟨hG.1, ⟨hA.1.1, fun _ => hA.1.2.1 hc, fun _ => hA.1.2.2.1 hc, fun _ => hA.1.2.2.2.1 hd, fun _ => hA.1.2.2.2.2.1 hb, fun _ => hA.1.2.2.2.2.2 hb⟩, hA.2.1, hA.2.2.1, fun h => h.elim⟩
end

section
open Go.ChangeShapes Go.WideShapes Go.ChangeAt Go.RowKit Go.Deep
theorem Q1 {P : Program} {x : String × DataW Unit} {r : List (String × DataW Unit)} {W : World} (h : laidMet P (x :: r) W) : laidMet P r W := by
  obtain ⟨ps, ⟨g, t, cs, G, p, q, _, _, _, _, hv, rfl⟩, hn, hc⟩ := h
  exact ⟨q, hv, (List.nodup_append.1 hn).2.1, fun b D hb => hc b D (List.mem_append_right _ hb)⟩
theorem J1k {W : World} {name : String} {k : IntKind} {zs : List Int} {g : Nat} (h : Lib.TabIs Tryz.prog W name k zs) (hg : Tryz.prog.globalNamed name = some g) (h0 : 0 < zs.length) : Rd W g (zs.map fun z => Value.int k z).toArray := by
  refine ⟨fun j v hj => ?_, World.block_lt_of_cell? W ⟨g, 0, none⟩ (h.cell hg 0 h0)⟩
  rw [List.getElem?_toArray, List.getElem?_map] at hj
  cases hz : zs[j]? with
  | none => rw [hz] at hj; cases hj
  | some z =>
    rw [hz] at hj
    obtain rfl := Option.some.inj hj
    have hl : j < zs.length := by
      rcases Nat.lt_or_ge j zs.length with h | h
      · exact h
      · rw [List.getElem?_eq_none h] at hz; cases hz
    have := h.cell hg j hl
    rwa [List.getD_eq_getElem?_getD, hz] at this
theorem Y9l : Tryz.prog.globalNamed "custumal/custumalref02.K" = some 3 := by kernel_rfl
theorem Y9m {W : World} {r : List (String × DataW Unit)} (h : laidMet Tryz.prog (("custumal/custumalref02.K", Rows.laid_custumal_custumalref02_K) :: r) W) : Rd W 3 (J0 .u64 80 kf) :=
  have e : (kk.map fun z => Value.int .u64 z).toArray = J0 .u64 80 kf := by kernel_rfl
  have t : Lib.TabIs Tryz.prog W "custumal/custumalref02.K" .u64 kk := Lib.tabIs_of_head (rest := r) Y9l (by kernel_rfl) Tryz.underlying187 Tryz.underlying71 (by kernel_rfl) (by kernel_rfl) h
  e ▸ J1k t Y9l (by decide)
theorem Y9n : Tryz.prog.globalNamed "custumal/custumalref02.H" = some 2 := by kernel_rfl
theorem Y9o {W : World} {r : List (String × DataW Unit)} (h : laidMet Tryz.prog (("custumal/custumalref02.H", Rows.laid_custumal_custumalref02_H) :: r) W) : Rd W 2 (J0 .u64 8 hf) :=
  have e : (hh.map fun z => Value.int .u64 z).toArray = J0 .u64 8 hf := by kernel_rfl
  have t : Lib.TabIs Tryz.prog W "custumal/custumalref02.H" .u64 hh := Lib.tabIs_of_head (rest := r) Y9n (by kernel_rfl) Tryz.underlying186 Tryz.underlying71 (by kernel_rfl) (by kernel_rfl) h
  e ▸ J1k t Y9n (by decide)
theorem Y9p : Tryz.prog.globalNamed "custumal/sha2.start" = some 4 := by kernel_rfl
theorem Y9q {W : World} {r : List (String × DataW Unit)} (h : laidMet Tryz.prog (("custumal/sha2.start", Rows.laid_custumal_sha2_start) :: r) W) : Rd W 4 (J0 .u32 8 hf4) :=
  have e : (hh4.map fun z => Value.int .u32 z).toArray = J0 .u32 8 hf4 := by kernel_rfl
  have t : Lib.TabIs Tryz.prog W "custumal/sha2.start" .u32 hh4 := Lib.tabIs_of_head (rest := r) Y9p (by kernel_rfl) Tryz.underlying194 Tryz.underlying193 (by kernel_rfl) (by kernel_rfl) h
  e ▸ J1k t Y9p (by decide)
theorem Y9r : Tryz.prog.globalNamed "custumal/sha2.rounds" = some 11 := by kernel_rfl
theorem Y9s {W : World} {r : List (String × DataW Unit)} (h : laidMet Tryz.prog (("custumal/sha2.rounds", Rows.laid_custumal_sha2_rounds) :: r) W) : Rd W 11 (J0 .u32 64 kf4) :=
  have e : (kk4.map fun z => Value.int .u32 z).toArray = J0 .u32 64 kf4 := by kernel_rfl
  have t : Lib.TabIs Tryz.prog W "custumal/sha2.rounds" .u32 kk4 := Lib.tabIs_of_head (rest := r) Y9r (by kernel_rfl) Tryz.underlying231 Tryz.underlying193 (by kernel_rfl) (by kernel_rfl) h
  e ▸ J1k t Y9r (by decide)
theorem Y9t : Tryz.prog.globalNamed "custumal/sha5.start" = some 10 := by kernel_rfl
theorem Y9u {W : World} {r : List (String × DataW Unit)} (h : laidMet Tryz.prog (("custumal/sha5.start", Rows.laid_custumal_sha5_start) :: r) W) : Rd W 10 (J0 .u64 8 hf) :=
  have e : (hh.map fun z => Value.int .u64 z).toArray = J0 .u64 8 hf := by kernel_rfl
  have t : Lib.TabIs Tryz.prog W "custumal/sha5.start" .u64 hh := Lib.tabIs_of_head (rest := r) Y9t (by kernel_rfl) Tryz.underlying186 Tryz.underlying71 (by kernel_rfl) (by kernel_rfl) h
  e ▸ J1k t Y9t (by decide)
theorem Y9v : Tryz.prog.globalNamed "custumal/sha5.rounds" = some 14 := by kernel_rfl
theorem Y9w {W : World} {r : List (String × DataW Unit)} (h : laidMet Tryz.prog (("custumal/sha5.rounds", Rows.laid_custumal_sha5_rounds) :: r) W) : Rd W 14 (J0 .u64 80 kf) :=
  have e : (kk.map fun z => Value.int .u64 z).toArray = J0 .u64 80 kf := by kernel_rfl
  have t : Lib.TabIs Tryz.prog W "custumal/sha5.rounds" .u64 kk := Lib.tabIs_of_head (rest := r) Y9v (by kernel_rfl) Tryz.underlying187 Tryz.underlying71 (by kernel_rfl) (by kernel_rfl) h
  e ▸ J1k t Y9v (by decide)
theorem Y4h : Tryz.prog.globalNamed "custumal/field.modulus" = some 13 := by kernel_rfl
theorem Y65 {W : World} {r : List (String × DataW Unit)} (h : laidMet Tryz.prog (("custumal/field.modulus", Rows.laid_custumal_field_modulus) :: r) W) : Rd W 13 (S8.modC) :=
  have t : Lib.TabIs Tryz.prog W "custumal/field.modulus" .u64 [18446744073709551597, 18446744073709551615, 18446744073709551615, 9223372036854775807] := Lib.tabIs_of_head (rest := r) Y4h (by kernel_rfl) Tryz.underlying155 Tryz.underlying71 (by kernel_rfl) (by kernel_rfl) h
  J1k t Y4h (by decide)
theorem Y4i : Tryz.prog.globalNamed "custumal/field.imaginary" = some 12 := by kernel_rfl
theorem Y66 {W : World} {r : List (String × DataW Unit)} (h : laidMet Tryz.prog (("custumal/field.imaginary", Rows.laid_custumal_field_imaginary) :: r) W) : Rd W 12 (S8.imaC) :=
  have t : Lib.TabIs Tryz.prog W "custumal/field.imaginary" .u64 [14190309331451158704, 3405592160176694392, 3120150775007532967, 3135389899092516619] := Lib.tabIs_of_head (rest := r) Y4i (by kernel_rfl) Tryz.underlying155 Tryz.underlying71 (by kernel_rfl) (by kernel_rfl) h
  J1k t Y4i (by decide)
theorem Y4j : Tryz.prog.globalNamed "custumal/edwards.curve" = some 8 := by kernel_rfl
theorem Y67 {W : World} {r : List (String × DataW Unit)} (h : laidMet Tryz.prog (("custumal/edwards.curve", Rows.laid_custumal_edwards_curve) :: r) W) : Rd W 8 (c4 S8.DD) :=
  have t : Lib.TabIs Tryz.prog W "custumal/edwards.curve" .u64 [8496970652267935907,31536524315187371,10144147576115030168,5909686906226998899] := Lib.tabIs_of_head (rest := r) Y4j (by kernel_rfl) Tryz.underlying155 Tryz.underlying71 (by kernel_rfl) (by kernel_rfl) h
  J1k t Y4j (by decide)
theorem Y4k : Tryz.prog.globalNamed "custumal/edwards.double" = some 9 := by kernel_rfl
theorem Y68 {W : World} {r : List (String × DataW Unit)} (h : laidMet Tryz.prog (("custumal/edwards.double", Rows.laid_custumal_edwards_double) :: r) W) : Rd W 9 (c4 S8.D2) :=
  have t : Lib.TabIs Tryz.prog W "custumal/edwards.double" .u64 [16993941304535871833,63073048630374742,1841551078520508720,2596001775599221991] := Lib.tabIs_of_head (rest := r) Y4k (by kernel_rfl) Tryz.underlying155 Tryz.underlying71 (by kernel_rfl) (by kernel_rfl) h
  J1k t Y4k (by decide)
theorem Y4l : Tryz.prog.globalNamed "custumal/edwards.baseX" = some 5 := by kernel_rfl
theorem Y69 {W : World} {r : List (String × DataW Unit)} (h : laidMet Tryz.prog (("custumal/edwards.baseX", Rows.laid_custumal_edwards_baseX) :: r) W) : Rd W 5 (c4 S8.BX) :=
  have t : Lib.TabIs Tryz.prog W "custumal/edwards.baseX" .u64 [14507833142362363162,7578651490590762930,13881468655802702940,2407515759118799870] := Lib.tabIs_of_head (rest := r) Y4l (by kernel_rfl) Tryz.underlying155 Tryz.underlying71 (by kernel_rfl) (by kernel_rfl) h
  J1k t Y4l (by decide)
theorem Y4m : Tryz.prog.globalNamed "custumal/edwards.baseY" = some 6 := by kernel_rfl
theorem Y6a {W : World} {r : List (String × DataW Unit)} (h : laidMet Tryz.prog (("custumal/edwards.baseY", Rows.laid_custumal_edwards_baseY) :: r) W) : Rd W 6 (c4 S8.BY) :=
  have t : Lib.TabIs Tryz.prog W "custumal/edwards.baseY" .u64 [7378697629483820632,7378697629483820646,7378697629483820646,7378697629483820646] := Lib.tabIs_of_head (rest := r) Y4m (by kernel_rfl) Tryz.underlying155 Tryz.underlying71 (by kernel_rfl) (by kernel_rfl) h
  J1k t Y4m (by decide)
theorem Z60 : Tryz.prog.globalNamed "custumal/scalar.order" = some 7 := by kernel_rfl
theorem Y9x {W : World} {r : List (String × DataW Unit)} (h : laidMet Tryz.prog (("custumal/scalar.order", Rows.laid_custumal_scalar_order) :: r) W) : S8.Sc.GL W :=
  have t : Lib.TabIs Tryz.prog W "custumal/scalar.order" .u64 [6346243789798364141, 1503914060200516822, 0, 1152921504606846976] := Lib.tabIs_of_head (rest := r) Z60 (by kernel_rfl) Tryz.underlying153 Tryz.underlying71 (by kernel_rfl) (by kernel_rfl) h
  have h0 := t.cell Z60 0 (by decide)
  ⟨h0, t.cell Z60 1 (by decide), t.cell Z60 2 (by decide), t.cell Z60 3 (by decide), World.block_lt_of_cell? W _ h0⟩
theorem J3g {W : World} (h : laidMet Tryz.prog [("custumal/custumalref02.K", Rows.laid_custumal_custumalref02_K), ("custumal/custumalref02.H", Rows.laid_custumal_custumalref02_H), ("custumal/field.modulus", Rows.laid_custumal_field_modulus), ("custumal/field.imaginary", Rows.laid_custumal_field_imaginary), ("custumal/edwards.curve", Rows.laid_custumal_edwards_curve), ("custumal/edwards.double", Rows.laid_custumal_edwards_double), ("custumal/edwards.baseX", Rows.laid_custumal_edwards_baseX), ("custumal/edwards.baseY", Rows.laid_custumal_edwards_baseY), ("custumal/scalar.order", Rows.laid_custumal_scalar_order), ("custumal/sha2.start", Rows.laid_custumal_sha2_start), ("custumal/sha2.rounds", Rows.laid_custumal_sha2_rounds), ("custumal/sha5.start", Rows.laid_custumal_sha5_start), ("custumal/sha5.rounds", Rows.laid_custumal_sha5_rounds)] W) : S8.GA ⟨True, True, True, True⟩ W := ⟨⟨⟨(Y65 (Q1 (Q1 h))), trivial⟩, fun _ => (Y66 (Q1 (Q1 (Q1 h)))), fun _ => (Y67 (Q1 (Q1 (Q1 (Q1 h))))), fun _ => (Y68 (Q1 (Q1 (Q1 (Q1 (Q1 h)))))), fun _ => (Y69 (Q1 (Q1 (Q1 (Q1 (Q1 (Q1 h))))))), fun _ => (Y6a (Q1 (Q1 (Q1 (Q1 (Q1 (Q1 (Q1 h))))))))⟩, ⟨(Y9w (Q1 (Q1 (Q1 (Q1 (Q1 (Q1 (Q1 (Q1 (Q1 (Q1 (Q1 (Q1 h))))))))))))), (Y9u (Q1 (Q1 (Q1 (Q1 (Q1 (Q1 (Q1 (Q1 (Q1 (Q1 (Q1 h))))))))))))⟩, (Y9x (Q1 (Q1 (Q1 (Q1 (Q1 (Q1 (Q1 (Q1 h))))))))), fun _ => ⟨(Y9m h), (Y9o (Q1 h))⟩⟩
theorem Q2b {W : World} (h : laidMet Tryz.prog [("custumal/custumalref02.K", Rows.laid_custumal_custumalref02_K), ("custumal/custumalref02.H", Rows.laid_custumal_custumalref02_H), ("custumal/field.modulus", Rows.laid_custumal_field_modulus), ("custumal/field.imaginary", Rows.laid_custumal_field_imaginary), ("custumal/edwards.curve", Rows.laid_custumal_edwards_curve), ("custumal/edwards.double", Rows.laid_custumal_edwards_double), ("custumal/edwards.baseX", Rows.laid_custumal_edwards_baseX), ("custumal/edwards.baseY", Rows.laid_custumal_edwards_baseY), ("custumal/scalar.order", Rows.laid_custumal_scalar_order), ("custumal/sha2.start", Rows.laid_custumal_sha2_start), ("custumal/sha2.rounds", Rows.laid_custumal_sha2_rounds), ("custumal/sha5.start", Rows.laid_custumal_sha5_start), ("custumal/sha5.rounds", Rows.laid_custumal_sha5_rounds)] W) : GX W := ⟨⟨(Y9s (Q1 (Q1 (Q1 (Q1 (Q1 (Q1 (Q1 (Q1 (Q1 (Q1 h))))))))))), (Y9q (Q1 (Q1 (Q1 (Q1 (Q1 (Q1 (Q1 (Q1 (Q1 h))))))))))⟩, ⟨(J3g h).1, (J3g h).2.1, (J3g h).2.2.1, fun h => h.elim⟩⟩
def J19 (cs : Array Value) : Obj → Obj
  | .cells _ t frozen => .cells cs t frozen
  | o => o
noncomputable def laidWorld (os : Os) : World := { World.holding Tryz.prog os ⟨#[], #[], []⟩ with heap := ((((((((((((((((World.holding Tryz.prog os ⟨#[], #[], []⟩).heap.modify 1 (J19 (J0 .i64 64 kf4))).modify 0 (J19 (J0 .i64 8 hf4))).modify 3 (J19 (J0 .u64 80 kf))).modify 2 (J19 (J0 .u64 8 hf))).modify 4 (J19 (J0 .u32 8 hf4))).modify 11 (J19 (J0 .u32 64 kf4))).modify 10 (J19 (J0 .u64 8 hf))).modify 14 (J19 (J0 .u64 80 kf))).modify 13 (J19 (S8.modC))).modify 12 (J19 (S8.imaC))).modify 8 (J19 (c4 S8.DD))).modify 9 (J19 (c4 S8.D2))).modify 5 (J19 (c4 S8.BX))).modify 6 (J19 (c4 S8.BY))).modify 7 (J19 (#[.int .u64 6346243789798364141, .int .u64 1503914060200516822, .int .u64 0, .int .u64 1152921504606846976]))) }
end

section
set_option maxHeartbeats 1500000
attribute [local irreducible] wpList U0 wpX
inductive TR where
 | nil : TR
 | leaf : Nat → Nat → TR
 | node : Nat → TR → TR → TR
def rs : TR → Nat
 | .nil => sE
 | .leaf k v => sL k v
 | .node d l r => sN (d : Int) (rs l) (rs r)
def cnt : TR → Nat
 | .nil => 0
 | .leaf _ _ => 1
 | .node _ l r => cnt l + cnt r
def ndc (k v : Nat) (s0 s1 : Value) (sp : Bool) (S n : Nat) : Array Value := lf k v ++ (#[s0, s1, .bool sp] ++ (J0 .u8 32 (Q3 S) ++ #[.int .i64 (n : Int)]))
section
variable {k v S n : Nat} {s0 s1 : Value} {sp : Bool}
theorem J8p : ∀ i u, (J0 .u8 32 (Q3 k))[i]? = some u → (ndc k v s0 s1 sp S n)[0 + i]? = some u := fun i u h => by have := Z30 (k := k) (v := v) i u h; rw [Nat.zero_add] at this ⊢; exact J3o this
theorem Z8l {i : Nat} {u : Value} (h : (#[s0, s1, .bool sp] ++ (J0 .u8 32 (Q3 S) ++ #[.int .i64 (n : Int)]))[i]? = some u) : (ndc k v s0 s1 sp S n)[64 + i]? = some u := J6l J4k h
theorem nd_s0 : (ndc k v s0 s1 sp S n)[64]? = some s0 := Z8l (i := 0) (J3o rfl)
theorem nd_s1 : (ndc k v s0 s1 sp S n)[65]? = some s1 := Z8l (i := 1) (J3o rfl)
theorem J7l : (ndc k v s0 s1 sp S n)[66]? = some (.bool sp) := Z8l (i := 2) (J3o rfl)
theorem Y8e : ∀ i u, (J0 .u8 32 (Q3 S))[i]? = some u → (ndc k v s0 s1 sp S n)[67 + i]? = some u := fun i u h => by
 have h1 : (#[s0, s1, Value.bool sp] ++ (J0 .u8 32 (Q3 S) ++ #[.int .i64 (n : Int)]))[3 + i]? = some u := J6l rfl (J3o h)
 have := Z8l (k := k) (v := v) h1
 rw [← Nat.add_assoc] at this; exact this
theorem V4c : (ndc k v s0 s1 sp S n)[99]? = some (.int .i64 (n : Int)) := by
 have h1 : (#[s0, s1, Value.bool sp] ++ (J0 .u8 32 (Q3 S) ++ #[.int .i64 (n : Int)]))[3 + (32 + 0)]? = some (.int .i64 (n : Int)) := J6l rfl (J6l (J1 _ _ _) rfl)
 rw [show (99 : Nat) = 64 + (3 + (32 + 0)) from rfl]; exact Z8l h1
theorem Q85 : ∀ i u, (#[s0, s1] : Array Value)[i]? = some u → (ndc k v s0 s1 sp S n)[64 + i]? = some u := fun i u h => by
 match i, h with
 | 0, h => exact nd_s0.trans h
 | 1, h => exact nd_s1.trans h
 | i + 2, h => simp at h
end
abbrev ptr (b : Nat) : Value := .pointer (some ⟨b, 0, none⟩)
abbrev nlp : Value := .pointer none
def TA (w : World) : TR → Value → Prop
 | .nil, u => u = nlp
 | .leaf k v, u => ∃ b, u = ptr b ∧ Blk w b (ndc k v nlp nlp false (sL k v) 1) 151 ∧ k < 2 ^ 256 ∧ v < 2 ^ 256
 | .node d l r, u => ∃ b s0 s1, u = ptr b ∧ Blk w b (ndc 0 0 s0 s1 true (rs (.node d l r)) (cnt l + cnt r)) 151 ∧ TA w l s0 ∧ TA w r s1
theorem Z8m {w : World} {b : Nat} {cs : Array Value} {t : TypeId} (h : Blk w b cs t) : J8j w b = some t := by unfold J8j; rw [show w.heap[b]? = _ from h]
theorem TA.keep {w W : World} (e : ∀ k, k < w.heap.size → J8j w k = some 151 → W.heap[k]? = w.heap[k]?) : ∀ {T : TR} {u : Value}, TA w T u → TA W T u
 | .nil, _, h => h
 | .leaf k v, _, ⟨b, h1, h2, h3⟩ => ⟨b, h1, (e b (Q2 h2) (Z8m h2)).trans h2, h3⟩
 | .node d l r, _, ⟨b, s0, s1, h1, h2, h3, h4⟩ => ⟨b, s0, s1, h1, (e b (Q2 h2) (Z8m h2)).trans h2, TA.keep e h3, TA.keep e h4⟩
theorem TA.ext {w W : World} {T : TR} {u : Value} (h : TA w T u) (k : Ext w W) : TA W T u := h.keep fun b hb _ => k.block b hb
theorem TA.holds {w : World} {T : TR} {u : Value} (h : TA w T u) : (As.t 151 fun W => TA W T u).holds w := ⟨h, fun _ _ e => h.keep e⟩
theorem TA.one {w : World} {T : TR} {u : Value} (h : TA w T u) : u.cells = #[u] ∧ u.oneCell' = true := by
 cases T with
 | nil => rw [show u = nlp from h]; exact ⟨rfl, rfl⟩
 | leaf k v => obtain ⟨b, rfl, _⟩ := h; exact ⟨rfl, rfl⟩
 | node d l r => obtain ⟨b, s0, s1, rfl, _⟩ := h; exact ⟨rfl, rfl⟩
theorem TA.pt {w : World} {T : TR} {u : Value} (h : TA w T u) : ∃ p, u = .pointer p := by
 cases T with
 | nil => exact ⟨_, h⟩
 | leaf k v => obtain ⟨b, h, _⟩ := h; exact ⟨_, h⟩
 | node d l r => obtain ⟨b, s0, s1, h, _⟩ := h; exact ⟨_, h⟩
theorem TA.blk {w : World} {T : TR} {u : Value} (h : TA w T u) : (T = .nil ∧ u = nlp) ∨ ∃ b k v s0 s1 sp, u = ptr b ∧ Blk w b (ndc k v s0 s1 sp (rs T) (cnt T)) 151 := by
 cases T with
 | nil => exact .inl ⟨rfl, h⟩
 | leaf k v => obtain ⟨b, h1, h2, _⟩ := h; exact .inr ⟨b, k, v, _, _, _, h1, h2⟩
 | node d l r => obtain ⟨b, s0, s1, h1, h2, _⟩ := h; exact .inr ⟨b, 0, 0, s0, s1, _, h1, h2⟩
def J7m (T : TR) (w w' : World) (e : Ending) : Prop := ∃ u, e = .returned u ∧ Ext w w' ∧ TA w' T u
theorem J49 {f : FuncId} {args : Array Value} {F : List Nat} {w W : World} {H : List As} {T : TR} (hS : SH F w W H) (hc : Calls Tryz.prog f args W fun e W' => J7m T W W' e) (ht : H.all (fun y => SH.tyOk y (.t 151 fun _ => True)) = true) :
  Calls Tryz.prog f args W fun e W' => ∃ u, e = .returned u ∧ SH F w W' (.t 151 (fun W => TA W T u) :: H) :=
 hc.mono fun e W' ⟨u, h1, h2, h3⟩ => ⟨u, h1, (hS.grow h2).fact h3.holds ht⟩
attribute [local irreducible] hs4 sE sL sN

theorem Z8n {q : Prop} (w : World) (hG : GT q w) :
  Calls Tryz.prog 51 #[nlp] w fun e w' => K7 (.agg (J0 .u8 32 (Q3 sE))) w w' e := by
 have hS := SH.nil [] w
 go_enter Tryz.func51, Tryz.ntmps51
 go_upto_region 0 with fail
 refine RL hS ?_
 clear hS
 refine MN (z := J0 .u8 32 (Q3 0)) (t := 23) ?_
 intro X5
 refine MZ fun W hS => ?_
 go_upto_region 2 with fail
 refine RL hS ?_
 clear hS
 obtain ⟨U1, G⟩ := V3 (sE)
 have D := Lib.hid G
 clear G
 refine MC (v := .agg (J0 .u8 32 (Q3 U1))) (fun W hS => (by rw [D.out]; exact Z1y W (J08 hG hS.ext))) ?_
 refine MR 0 ?_ 
 refine MZ fun W hS => ?_
 have e_ := D.out
 subst e_
 go_wp2
 exact bodyPost_ret (Z6 rfl rfl (hS.blk (i := 0) rfl) (by kernel_rfl) (by rw [J1]; kernel_rfl)) rfl ⟨rfl, hS.ext⟩
theorem Y8f (w : World) {b k v S n : Nat} {s0 s1 : Value} {sp : Bool} (hB : Blk w b (ndc k v s0 s1 sp S n) 151) :
  Calls Tryz.prog 51 #[ptr b] w fun e w' => K7 (.agg (J0 .u8 32 (Q3 S))) w w' e := by
 have hS := SH.nil [] w
 go_enter Tryz.func51, Tryz.ntmps51
 go_upto_region 0 with fail
 refine RL hS ?_
 clear hS
 refine MN (z := J0 .u8 32 (Q3 0)) (t := 23) ?_
 intro X5
 refine MZ fun W hS => ?_
 go_upto_region 3 with fail
 refine RL hS ?_
 clear hS
 refine MV ?_
 refine MV ?_
 refine MV ?_
 refine MF (v := .agg (J0 .u8 32 (Q3 S))) (fun W hS => J0g (vs := (J0 .u8 32 (Q3 S)).toList) rfl rfl (fun i v hv => by rw [J7 (J2 hB hS.ext)]; exact Y8e i v (by simpa using hv)) (by kernel_rfl) (by first | kernel_rfl | (simp only [Array.length_toList]; rw [J1]; kernel_rfl))) ?_
 refine MR 0 ?_ 
 refine MZ fun W hS => ?_
 go_wp2
 exact bodyPost_ret (Z6 rfl rfl (hS.blk (i := 0) rfl) (by kernel_rfl) (by rw [J1]; kernel_rfl)) rfl ⟨rfl, hS.ext⟩
theorem Q61 {q : Prop} {T : TR} {u : Value} (w : World) (hG : GT q w) (h : TA w T u) : Calls Tryz.prog 51 #[u] w fun e w' => K7 (.agg (J0 .u8 32 (Q3 (rs T)))) w w' e := by
 rcases h.blk with ⟨rfl, rfl⟩ | ⟨b, k, v, s0, s1, sp, rfl, hB⟩
 ·
  exact Z8n w hG
 exact Y8f w hB
theorem Y2e (w : World) :
  Calls Tryz.prog 182 #[nlp] w fun e w' => K7 (.int .i64 ((0 : Nat) : Int)) w w' e := by
 have hS := SH.nil [] w
 go_enter Tryz.func182, Tryz.ntmps182
 go_wp2
 exact bodyPost_ret (v := .int .i64 0) (by simp only [results, Tryz.results182]; go_simp) rfl ⟨rfl, hS.ext⟩
theorem V1u (w : World) {b k v S n : Nat} {s0 s1 : Value} {sp : Bool} (hB : Blk w b (ndc k v s0 s1 sp S n) 151) :
  Calls Tryz.prog 182 #[ptr b] w fun e w' => K7 (.int .i64 (n : Int)) w w' e := by
 have hS := SH.nil [] w
 go_enter Tryz.func182, Tryz.ntmps182
 go_upto_region 3 with fail
 refine RL hS ?_
 clear hS
 refine MV ?_
 refine MV ?_
 refine MV ?_
 refine MF (v := .int .i64 (n : Int)) (fun W hS => X8 rfl rfl (by rw [J7 (J2 hB hS.ext)]; exact V4c) (by kernel_rfl)) ?_
 refine MV ?_
 refine MZ fun W hS => ?_
 go_wp2
 exact bodyPost_ret (v := .int .i64 (n : Int)) (by simp only [results, Tryz.results182]; go_simp) rfl ⟨rfl, hS.ext⟩
theorem Y5i {T : TR} {u : Value} (w : World) (h : TA w T u) : Calls Tryz.prog 182 #[u] w fun e w' => K7 (.int .i64 (cnt T : Int)) w w' e := by
 rcases h.blk with ⟨rfl, rfl⟩ | ⟨b, k, v, s0, s1, sp, rfl, hB⟩
 ·
  exact Y2e w
 exact V1u w hB
theorem Z8o {q : Prop} {k v : Nat} (hk : k < 2 ^ 256) (hv : v < 2 ^ 256) (w : World) (hG : GT q w) :
  Calls Tryz.prog 161 #[.agg (lf k v)] w fun e w' => J7m (.leaf k v) w w' e := by
 have hS := SH.nil [] w
 go_enter Tryz.func161, Tryz.ntmps161
 go_upto_region 0 with fail
 refine RL hS ?_
 clear hS
 refine MN (z := lf k v) (t := 51) ?_
 intro M
 refine MV ?_
 refine MZ fun W hS => ?_
 go_upto_region 1 with fail
 refine RTh (.q 0 (.q 1 (.e 2 (.q 3 (.e 4 (.q 5 .z)))))) hS ?_
 clear hS
 refine TL 0 ?_ (hs := by rw [J4k]; kernel_rfl)
 refine TL 0 ?_ (hs := by rw [J4k]; kernel_rfl)
 refine TE (fun _ h => h) ?_
 obtain ⟨U1, G⟩ := V3 (sL k v)
 have D := Lib.hid G
 clear G
 refine MC (v := .agg (J0 .u8 32 (Q3 U1))) (fun W hS => (by rw [D.out]; exact Z47 k v W (J08 hG hS.ext))) ?_
 refine TNh (fun W hS => hS) ?_
 refine TW ?_ (v := .agg (ndc k v nlp nlp false U1 1)) (hv := by intro W; first | rfl | kernel_rfl)
 refine TE (fun _ h => h) ?_
 refine MN (z := ndc k v nlp nlp false U1 1) (t := 151) ?_ (hr := by intro w; kernel_rfl)
 intro J
 refine TNh (fun W hS => hS.pick [1]) ?_
 refine TV ?_
 refine TZ (fun _ h => h) fun W hS => ?_
 have e_ := D.out
 subst e_
 go_wp2
 exact bodyPost_ret (v := ptr J) (by simp only [results, Tryz.results161]; go_simp) rfl ⟨_, rfl, hS.ext, ⟨_, rfl, (hS.blk (i := 0) rfl), hk, hv⟩⟩
theorem Y8g {q : Prop} {L R : TR} {pa pb : Option Addr} (d : Nat) (hn : cnt L + cnt R < 4611686018427387904) (w : World) (hG : GT q w) (hl : TA w L (.pointer pa)) (hr_ : TA w R (.pointer pb)) :
  Calls Tryz.prog 163 #[.int .i64 (d : Int), .pointer pa, .pointer pb] w fun e w' => J7m (.node d L R) w w' e := by
 have hS := SH.nil [] w
 go_enter Tryz.func163, Tryz.ntmps163
 go_upto_region 1 with fail
 refine RL hS ?_
 clear hS
 refine MV ?_
 refine MV ?_
 refine MW ?_ (v := .agg #[.pointer pa, .pointer pb]) (hv := by intro W; first | rfl | kernel_rfl)
 refine MV ?_
 refine MV ?_
 refine MC (v := .agg (J0 .u8 32 (Q3 (rs L)))) (fun W hS => Q61 W (J08 hG hS.ext) (TA.ext hl hS.ext)) ?_
 refine MV ?_
 refine MC (v := .agg (J0 .u8 32 (Q3 (rs R)))) (fun W hS => Q61 W (J08 hG hS.ext) (TA.ext hr_ hS.ext)) ?_
 obtain ⟨U1, G⟩ := V3 (sN (d : Int) (rs L) (rs R))
 have D := Lib.hid G
 clear G
 refine MC (v := .agg (J0 .u8 32 (Q3 U1))) (fun W hS => (by rw [D.out]; exact Z48 (d : Int) (rs L) (rs R) W (J08 hG hS.ext))) ?_
 refine MV ?_
 refine MC (v := .int .i64 (cnt L : Int)) (fun W hS => Y5i W (TA.ext hl hS.ext)) ?_
 refine MV ?_
 refine MC (v := .int .i64 (cnt R : Int)) (fun W hS => Y5i W (TA.ext hr_ hS.ext)) ?_
 refine MW ?_ (v := .int .i64 ((cnt L + cnt R : Nat) : Int)) (hv := by intro W; go_simp; (try simp only [IntKind.wrap_i64]); omega)
 refine MW ?_ (v := .agg (ndc 0 0 (.pointer pa) (.pointer pb) true U1 (cnt L + cnt R))) (hv := by intro W; first | rfl | kernel_rfl)
 refine MN (z := ndc 0 0 (.pointer pa) (.pointer pb) true U1 (cnt L + cnt R)) (t := 151) ?_ (hr := by intro w; kernel_rfl)
 intro J
 refine MV ?_
 refine MZ fun W hS => ?_
 have e_ := D.out
 subst e_
 go_wp2
 exact bodyPost_ret (v := ptr J) (by simp only [results, Tryz.results163]; go_simp) rfl ⟨_, rfl, hS.ext, ⟨_, _, _, rfl, (hS.blk (i := 0) rfl), hl.ext hS.ext, hr_.ext hS.ext⟩⟩
theorem J7n {q : Prop} {L R : TR} {a b : Value} (d : Nat) (hn : cnt L + cnt R < 4611686018427387904) (w : World) (hG : GT q w) (hl : TA w L a) (hr_ : TA w R b) :
  Calls Tryz.prog 163 #[.int .i64 (d : Int), a, b] w fun e w' => J7m (.node d L R) w w' e := by
 obtain ⟨pa, rfl⟩ := hl.pt
 obtain ⟨pb, rfl⟩ := hr_.pt
 exact Y8g d hn w hG hl hr_
end

section
set_option maxHeartbeats 1500000
attribute [local irreducible] wpList
def J28 (f : Nat → Int) (i : Nat) : Int := f (i / 8) / 2 ^ (7 - i % 8) % 2
theorem Q83 {x : Int} {n : Nat} (h : 0 ≤ x ∧ x < 256) : 0 ≤ x / 2 ^ n ∧ x / 2 ^ n < 256 := by
  obtain ⟨a, rfl⟩ := Int.eq_ofNat_of_zero_le h.1
  rw [show ((a : Int) / 2 ^ n) = ((a / 2 ^ n : Nat) : Int) by rw [Int.natCast_ediv, Int.natCast_pow]; rfl]
  have h2 := Nat.div_le_self a (2 ^ n)
  have h3 := h.2
  clear h
  generalize a / 2 ^ n = q at *
  omega
section
variable {w : World} {o : Oper} {a : Act} {x y : Operand} {t t' : TypeId} {p : Int}
theorem Q47 {P : Program} {k : IntKind} {n : Nat} (hn : n ≤ 8) (ho : o.op = .binOp .shr t x y t') (hx : a.eval x = .int .u8 p) (hy : a.eval y = .int k (n : Int)) : (execOp a.eval o).run P w = .ok (.value (.int .u8 (p / 2 ^ n))) w := by
  have h : min ((n : Int)).toNat IntKind.u8.bits = n := by rw [Int.toNat_natCast]; exact Nat.min_eq_left hn
  simp only [execOp, ho, hx, hy, eqGuard, binOp, Sem.run_bind]
  simp [Op.shift, h, go_sem, Sem.run_bind]
theorem Z1w (hp : 0 ≤ p ∧ p < 256) (ho : o.op = .convert 5 3 x) (hx : a.eval x = .int .u8 p) : (execOp a.eval o).run Tryz.prog w = .ok (.value (.int .i64 p)) w := by
  have hw : IntKind.wrap .i64 p = p := by rw [IntKind.wrap_i64]; omega
  simp [execOp, ho, hx, convert, run_underlying Tryz.underlying5, run_underlying Tryz.underlying3, Sem.run_bind, Conv.intToInt, hw]
theorem Z1x (h : 0 ≤ p ∧ p < 256) : bits .and .i64 p 1 = p % 2 := bits_mask .i64 63 (by decide) V35 1 (by decide) p h.1 (by omega)
end

theorem Z8j (i : Nat) (hi : i < 256) (w : World) :
  Calls Tryz.prog 144 #[.int .i64 (i : Int)] w fun e w' => K7 (.bool true) w w' e := by
 have G : (i : Int) < 256 := by omega
 have J : (0 : Int) ≤ (i : Int) := by omega
 have D : Off [] w w := Off.refl _ _
 go_enter Tryz.func144, Tryz.ntmps144
 go_upto_region 1 with fail
 refine wp_region_lit ?_
 refine Lv ?_
 refine Lw ?_ (v := .bool true) (hv := by first | (go_simp; done) | (go_simp; omega))
 refine Lw ?_ (v := .bool true)
 refine Lv ?_
 refine Lw ?_ (v := .bool true) (hv := by first | (go_simp; done) | (go_simp; omega))
 refine Lw ?_ (v := .bool true)
 refine Lw ?_ (v := .bool true)
 refine J9 ?_
 go_wp2
 exact bodyPost_ret (v := .bool true) (by simp only [results, Tryz.results144]; go_simp) rfl ⟨rfl, D.ext⟩
theorem Y8d (f : Nat → Int) (hf : ∀ j, 0 ≤ f j ∧ f j < 256) (i : Nat) (hi : i < 256) (w : World) :
  Calls Tryz.prog 100 #[.agg (J0 .u8 32 f), .int .i64 (i : Int)] w fun e w' => K7 (.int .i64 (J28 f i)) w w' e := by
 have M : (i : Int) < 256 := by omega
 have N : (0 : Int) ≤ (i : Int) := by omega
 have hD := Q83 (n := 7 - i % 8) (hf (i / 8))
 have hA := Z1x hD
 clear hf
 have D : Off [] w w := Off.refl _ _
 go_enter Tryz.func100, Tryz.ntmps100
 go_upto_region 0 with fail
 refine wp_region_lit ?_
 refine Ln ?_ (z := J0 .u8 32 f) (t := 31)
 intro X5 W1 J hO h_
 replace D := D.o hO
 have G := h_
 clear hO h_ J
 refine Lw ?_ (v := .int .i64 0)
 refine J9 ?_
 go_upto_region 1 with fail
 refine wp_region_lit ?_
 refine Lv ?_
 refine Lr ?_ (Z8j i hi W1)
 intro W2 hO
 replace G := G.o hO
 replace D := D.o hO
 clear hO
 refine Lw ?_ (v := .bool false)
 refine J9 ?_
 go_upto_region 3 with fail
 refine wp_region_lit ?_
 refine Lv ?_
 refine Lw ?_ (v := .int .i64 (((i / 8 : Nat) : Int))) (hv := by go_simp; (try simp only [IntKind.wrap_u64, IntKind.wrap_i64]); (try omega))
 refine Lw ?_ (v := .pointer (some ⟨X5, 0 + (i / 8), none⟩)) (hv := J5 (m := 32) (by decide) (by omega) Tryz.underlying31 (by kernel_rfl) rfl rfl rfl)
 refine Lg ?_ G (v := .int .u8 (f (i / 8))) (hj := by rw [Nat.zero_add]; exact J3 _ _ _ _ (by omega))
 refine Lv ?_
 refine Lw ?_ (v := .int .i64 (((i % 8 : Nat) : Int))) (hv := by go_simp; (try rw [Int.tmod_eq_emod_of_nonneg (by omega)]); (try omega))
 refine Lw ?_ (v := .int .i64 (((7 - i % 8 : Nat) : Int))) (hv := by go_simp; (try simp only [IntKind.wrap_u64, IntKind.wrap_i64]); (try omega))
 refine Lw ?_ (v := .int .u8 (f (i / 8) / 2 ^ (7 - i % 8))) (hv := by exact Q47 (n := 7 - i % 8) (by omega) rfl rfl rfl)
 refine Lw ?_ (v := .int .i64 (f (i / 8) / 2 ^ (7 - i % 8))) (hv := by exact Z1w hD rfl rfl)
 refine Lw ?_ (v := .int .i64 (J28 f i)) (hv := by unfold J28; rw [← hA]; exact Z3v rfl rfl rfl)
 refine Lv ?_
 refine J9 ?_
 go_wp2
 exact bodyPost_ret (v := .int .i64 (J28 f i)) (by simp only [results, Tryz.results100]; go_simp) rfl ⟨rfl, D.ext⟩
theorem Q2z (f : Nat → Int) (hf : ∀ j, 0 ≤ f j ∧ f j < 256) (i : Nat) (hi : i < 256) (w : World) :
  Calls Tryz.prog 57 #[.agg (J0 .u8 32 f), .int .i64 (i : Int)] w fun e w' => K7 (.int .i64 (J28 f i)) w w' e := by
 have M : (i : Int) < 256 := by omega
 have N : (0 : Int) ≤ (i : Int) := by omega
 have hD := Q83 (n := 7 - i % 8) (hf (i / 8))
 have hA := Z1x hD
 clear hf
 have D : Off [] w w := Off.refl _ _
 go_enter Tryz.func57, Tryz.ntmps57
 go_upto_region 0 with fail
 refine wp_region_lit ?_
 refine Ln ?_ (z := J0 .u8 32 f) (t := 23)
 intro X5 W1 J hO h_
 replace D := D.o hO
 have G := h_
 clear hO h_ J
 refine Lw ?_ (v := .int .i64 0)
 refine J9 ?_
 go_upto_region 1 with fail
 refine wp_region_lit ?_
 refine Lv ?_
 refine Lw ?_ (v := .bool false) (hv := by first | (go_simp; done) | (go_simp; omega))
 refine Lw ?_ (v := .bool false)
 refine Lv ?_
 refine Lw ?_ (v := .bool false) (hv := by first | (go_simp; done) | (go_simp; omega))
 refine Lw ?_ (v := .bool false)
 refine J9 ?_
 go_upto_region 3 with fail
 refine wp_region_lit ?_
 refine Lv ?_
 refine Lw ?_ (v := .int .i64 (((i / 8 : Nat) : Int))) (hv := by go_simp; (try simp only [IntKind.wrap_u64, IntKind.wrap_i64]); (try omega))
 refine Lw ?_ (v := .pointer (some ⟨X5, 0 + (i / 8), none⟩)) (hv := J5 (m := 32) (by decide) (by omega) Tryz.underlying23 (by kernel_rfl) rfl rfl rfl)
 refine Lg ?_ G (v := .int .u8 (f (i / 8))) (hj := by rw [Nat.zero_add]; exact J3 _ _ _ _ (by omega))
 refine Lv ?_
 refine Lw ?_ (v := .int .i64 (((i % 8 : Nat) : Int))) (hv := by go_simp; (try rw [Int.tmod_eq_emod_of_nonneg (by omega)]); (try omega))
 refine Lw ?_ (v := .int .i64 (((7 - i % 8 : Nat) : Int))) (hv := by go_simp; (try simp only [IntKind.wrap_u64, IntKind.wrap_i64]); (try omega))
 refine Lw ?_ (v := .int .u8 (f (i / 8) / 2 ^ (7 - i % 8))) (hv := by exact Q47 (n := 7 - i % 8) (by omega) rfl rfl rfl)
 refine Lw ?_ (v := .int .i64 (f (i / 8) / 2 ^ (7 - i % 8))) (hv := by exact Z1w hD rfl rfl)
 refine Lw ?_ (v := .int .i64 (J28 f i)) (hv := by unfold J28; first | (go_simp; done) | (go_simp; (try rw [Int.tmod_eq_emod_of_nonneg hD.1])))
 refine Lv ?_
 refine J9 ?_
 go_wp2
 exact bodyPost_ret (v := .int .i64 (J28 f i)) (by simp only [results, Tryz.results57]; go_simp) rfl ⟨rfl, D.ext⟩
end
end Go.Proofs.YtejkmhgkkibafaaGreatDoor
