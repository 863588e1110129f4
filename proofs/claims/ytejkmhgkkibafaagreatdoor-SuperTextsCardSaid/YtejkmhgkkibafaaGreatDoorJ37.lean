/- Trees: the sums of which all is made, the program's and the document's. Conditions: the tables hold their numbers. The cells of the variables that the program reads, as one thing. Conditions: none. -/
import Derived.Test.YtejkmhgkkibafaaGreatDoorSqI
import Derived.Test.YtejkmhgkkibafaaGreatDoorJ35
import Derived.Test.YtejkmhgkkibafaaGreatDoorSqJ
import Derived.Test.YtejkmhgkkibafaaGreatDoorJ29
set_option linter.unusedSimpArgs false
set_option linter.unusedVariables false
namespace Go.Proofs.YtejkmhgkkibafaaGreatDoor
set_option maxHeartbeats 1500000
set_option maxRecDepth 100000
open Go.RowKit
attribute [local irreducible] wpList wpTr wpX
set_option linter.unusedSimpArgs false
/-- what is laid: sha2's tables; the document's, if asked -/
def GT (hr : Prop) (w : World) : Prop := GS4 w ∧ (hr → GR4 w)
theorem GT_ext {q : Prop} {w W : World} (h : GT q w) (e : Ext w W) : GT q W := ⟨GS_ext4 h.1 e, fun x => GR_ext4 (h.2 x) e⟩
/-- two bytes of a depth -/
def db (d : Int) : List UInt8 := [UInt8.ofNat (d / 256 % 256).toNat, UInt8.ofNat (d % 256).toNat]
theorem dbl (d : Int) : (db d).length = 2 := rfl
theorem ofN_cast {x : Int} (h0 : 0 ≤ x) (h1 : x < 256) : ((UInt8.ofNat x.toNat).toNat : Int) = x := by rw [UInt8.toNat_ofNat', Nat.mod_eq_of_lt (by omega)]; omega
theorem db_hi (d : Int) : IntKind.wrap .u8 (d / 256) = ((UInt8.ofNat (d / 256 % 256).toNat).toNat : Int) := by rw [ofN_cast (by omega) (by omega), IntKind.wrap_u8]
theorem db_lo (d : Int) : IntKind.wrap .u8 d = ((UInt8.ofNat (d % 256).toNat).toNat : Int) := by rw [ofN_cast (by omega) (by omega), IntKind.wrap_u8]
/-- the sums of which all is made -/
def sE : Nat := hs4 [2]
def sL (k v : Nat) : Nat := hs4 ([0] ++ lb 32 k ++ lb 32 v)
def sN (d : Int) (l r : Nat) : Nat := hs4 ([1] ++ db d ++ lb 32 l ++ lb 32 r)
theorem sumN4_c {H : Nat} {F : List UInt8} (hH : H = hs4 F) (ps : List (List UInt8)) (A : Option Addr) (c : Nat) (hF : ps.flatten = F) (hlen : F.length ≤ 70368744177664) (hpn : ps.length ≤ 9223372036854775000) (w : World) (hps : ∀ i l, ps[i]? = some l → ∃ ad u, A = some ad ∧ w.cell? (ad.add i) = some u ∧ Sl w u l) (hG : GS4 w) :
  Calls Tryz.prog 45 #[.slice A ps.length c] w fun e w' => Ret (.agg (arrK .u8 32 (byt H))) w w' e := by
 rw [hH, ← sm_hs4]; exact sum4_c ps A c F hF hlen hpn w hps hG
theorem rsumN4_c {H : Nat} {l : List UInt8} (hH : H = hs4 l) (hlen : l.length ≤ 70368744177664) (w : World) (hG : GR4 w) : Calls Tryz.prog 15 #[str l] w fun e w' => Ret (str (lb 32 H)) w w' e := by
 rw [hH, ← smb_hs4]; exact rsum4_c l hlen w hG
attribute [local irreducible] hs4

theorem empty_c {q : Prop} (w : World) (hG : GT q w) :
  Calls Tryz.prog 46 #[] w fun e w' => Ret (.agg (arrK .u8 32 (byt sE))) w w' e := by
 have hS := SH.nil [] w
 go_enter Tryz.func46, Tryz.ntmps46
 go_upto_region 0 with fail
 refine RL hS ?_
 clear hS
 refine MN (z := arrK .u8 32 (byt 0)) (t := 23) ?_
 intro p0_1
 refine MZ fun W hS => ?_
 go_upto_region 1 with fail
 refine RL hS ?_
 clear hS
 refine MO (m := [2]) (n := 1) (z := #[.int .u8 2]) ?_
 intro v1_2
 refine MB (z := #[v1_2]) (t := 22) (n := 1) (c := 1) ?_ (hr := fun W hS => run_bsv [v1_2] rfl rfl (vsc (sl_cells (hS.osl (i := 0) rfl)).1 vs0) Tryz.underlying113 (by kernel_rfl) (by kernel_rfl) rfl (by decide) (by decide))
 intro p2_3
 obtain ⟨U1, hU1⟩ := exn (hs4 ([2]))
 have HU1 := Lib.hid hU1
 clear hU1
 refine MC (v := .agg (arrK .u8 32 (byt U1))) (fun W hS => sumN4_c HU1.out [[2]] (some ⟨p2_3, 0, none⟩) 1 (by simp only [List.flatten_cons, List.flatten_nil, List.append_nil, List.nil_append, List.append_assoc, List.cons_append]) (by first | omega | (simp only [List.length_append, List.length_cons, List.length_nil, lb_length, dbl]; omega)) (by simp) W (pss_blk (hS.blk (i := 0) rfl) (pvc (hS.osl (i := 1) rfl) pv0)) (GS_ext4 hG.1 hS.ext)) ?_
 refine MR 2 ?_ 
 refine MZ fun W hS => ?_
 have e_ := HU1.out
 subst e_
 go_wp2
 exact bodyPost_ret (res_row rfl rfl (hS.blk (i := 2) rfl) (by kernel_rfl) (by rw [arrK_size]; kernel_rfl)) rfl ⟨rfl, hS.ext⟩
theorem leafSum_c {q : Prop} (k v : Nat) (w : World) (hG : GT q w) :
  Calls Tryz.prog 179 #[.agg (lf k v)] w fun e w' => Ret (.agg (arrK .u8 32 (byt (sL k v)))) w w' e := by
 have hS := SH.nil [] w
 go_enter Tryz.func179, Tryz.ntmps179
 go_upto_region 0 with fail
 refine RL hS ?_
 clear hS
 refine MN (z := lf k v) (t := 51) ?_
 intro p1_1
 refine MN (z := arrK .u8 32 (byt 0)) (t := 23) ?_
 intro p2_2
 refine MZ fun W hS => ?_
 go_upto_region 1 with fail
 refine RTp [1] (.q 1 (.q 2 (.q 3 (.q 4 (.e 0 (.e 5 (.e 6 (.e 7 .z)))))))) hS ?_
 clear hS
 refine TV ?_
 refine TW ?_ (v := .slice (some ⟨p1_1, 0, none⟩) 32 32)
 refine TV ?_
 refine TW ?_ (v := .slice (some ⟨p1_1, 32, none⟩) 32 32)
 refine TE (fun _ h => h.pick [1]) ?_
 refine MO (m := [0]) (n := 1) (z := #[.int .u8 0]) ?_
 intro v3_3
 refine TNp [0, 2] [1] ?_
 refine TE (fun _ h => h.pick [0, 2]) ?_
 refine MB (z := #[v3_3, .slice (some ⟨p1_1, 0, none⟩) 32 32, .slice (some ⟨p1_1, 32, none⟩) 32 32]) (t := 22) (n := 3) (c := 3) ?_ (hr := fun W hS => run_bsv [v3_3, .slice (some ⟨p1_1, 0, none⟩) 32 32, .slice (some ⟨p1_1, 32, none⟩) 32 32] rfl rfl (vsc (sl_cells (hS.osl (i := 0) rfl)).1 (vsc rfl (vsc rfl vs0))) Tryz.underlying113 (by kernel_rfl) (by kernel_rfl) rfl (by decide) (by decide))
 intro p8_4
 refine TNp [0, 1, 3] [1, 2] ?_
 refine TE (fun _ h => h.pick [0, 1, 3]) ?_
 obtain ⟨U1, hU1⟩ := exn (hs4 ([0] ++ (lb 32 k) ++ (lb 32 v)))
 have HU1 := Lib.hid hU1
 clear hU1
 refine MC (v := .agg (arrK .u8 32 (byt U1))) (fun W hS => sumN4_c HU1.out [[0], lb 32 k, lb 32 v] (some ⟨p8_4, 0, none⟩) 3 (by simp only [List.flatten_cons, List.flatten_nil, List.append_nil, List.nil_append, List.append_assoc, List.cons_append]) (by first | omega | (simp only [List.length_append, List.length_cons, List.length_nil, lb_length, dbl]; omega)) (by simp) W (pss_blk (hS.blk (i := 0) rfl) (pvc (hS.osl (i := 1) rfl) (pvc (sl_part (V := k) (n := 32) (off := 0) (hS.blk (i := 3) rfl) lf_k (by decide) (by decide)) (pvc (sl_part (V := v) (n := 32) (off := 32) (hS.blk (i := 3) rfl) lf_v (by decide) (by decide)) pv0)))) (GS_ext4 hG.1 hS.ext)) ?_
 refine TNp [0, 1, 3] [0, 1, 2] ?_
 refine TE (fun _ h => h.pick [0, 1, 3]) ?_
 refine MR 2 ?_ 
 refine TNp [0, 1, 3] [0, 1, 2] ?_
 refine TZ (fun _ h => h.pick [0, 1, 3]) fun W hS => ?_
 have e_ := HU1.out
 subst e_
 go_wp2
 exact bodyPost_ret (res_row rfl rfl (hS.blk (i := 2) rfl) (by kernel_rfl) (by rw [arrK_size]; kernel_rfl)) rfl ⟨rfl, hS.ext⟩
theorem nodeSum_c {q : Prop} (d : Int) (l r : Nat) (w : World) (hG : GT q w) :
  Calls Tryz.prog 181 #[.int .i64 d, .agg (arrK .u8 32 (byt l)), .agg (arrK .u8 32 (byt r))] w fun e w' => Ret (.agg (arrK .u8 32 (byt (sN d l r)))) w w' e := by
 have hS := SH.nil [] w
 go_enter Tryz.func181, Tryz.ntmps181
 go_upto_region 0 with fail
 refine RL hS ?_
 clear hS
 refine MN (z := arrK .u8 32 (byt l)) (t := 23) ?_
 intro p4_1
 refine MN (z := arrK .u8 32 (byt r)) (t := 23) ?_
 intro p5_2
 refine MN (z := arrK .u8 32 (byt 0)) (t := 23) ?_
 intro p6_3
 refine MZ fun W hS => ?_
 go_upto_region 1 with fail
 refine RTp [1, 2] (.q 0 (.q 1 (.q 2 (.q 3 (.q 4 (.q 6 (.q 7 (.e 5 (.e 8 (.e 9 (.e 10 .z))))))))))) hS ?_
 clear hS
 refine TV ?_
 refine TW ?_ (v := .int .i64 (d / 256)) (hv := by intro W; exact run_shr_i (n := 8) (by decide) rfl rfl rfl)
 refine TW ?_ (v := .int .u8 ((UInt8.ofNat (d / 256 % 256).toNat).toNat : Int)) (hv := by intro W; rw [← db_hi d]; exact run_c8i rfl rfl)
 refine TV ?_
 refine TW ?_ (v := .int .u8 ((UInt8.ofNat (d % 256).toNat).toNat : Int)) (hv := by intro W; rw [← db_lo d]; exact run_c8i rfl rfl)
 refine TW ?_ (v := .slice (some ⟨p4_1, 0, none⟩) 32 32)
 refine TW ?_ (v := .slice (some ⟨p5_2, 0, none⟩) 32 32)
 refine TE (fun _ h => h.pick [1, 2]) ?_
 refine MO (m := [1, UInt8.ofNat (d / 256 % 256).toNat, UInt8.ofNat (d % 256).toNat]) (n := 3) (z := #[.int .u8 1, .int .u8 ((UInt8.ofNat (d / 256 % 256).toNat).toNat : Int), .int .u8 ((UInt8.ofNat (d % 256).toNat).toNat : Int)]) ?_
 intro v12_4
 refine TNp [0, 2, 3] [1, 2] ?_
 refine TE (fun _ h => h.pick [0, 2, 3]) ?_
 refine MB (z := #[v12_4, .slice (some ⟨p4_1, 0, none⟩) 32 32, .slice (some ⟨p5_2, 0, none⟩) 32 32]) (t := 22) (n := 3) (c := 3) ?_ (hr := fun W hS => run_bsv [v12_4, .slice (some ⟨p4_1, 0, none⟩) 32 32, .slice (some ⟨p5_2, 0, none⟩) 32 32] rfl rfl (vsc (sl_cells (hS.osl (i := 0) rfl)).1 (vsc rfl (vsc rfl vs0))) Tryz.underlying113 (by kernel_rfl) (by kernel_rfl) rfl (by decide) (by decide))
 intro p15_5
 refine TNp [0, 1, 3, 4] [1, 2, 3] ?_
 refine TE (fun _ h => h.pick [0, 1, 3, 4]) ?_
 obtain ⟨U1, hU1⟩ := exn (hs4 ([1, UInt8.ofNat (d / 256 % 256).toNat, UInt8.ofNat (d % 256).toNat] ++ (lb 32 l) ++ (lb 32 r)))
 have HU1 := Lib.hid hU1
 clear hU1
 refine MC (v := .agg (arrK .u8 32 (byt U1))) (fun W hS => sumN4_c HU1.out [[1, UInt8.ofNat (d / 256 % 256).toNat, UInt8.ofNat (d % 256).toNat], lb 32 l, lb 32 r] (some ⟨p15_5, 0, none⟩) 3 (by simp only [List.flatten_cons, List.flatten_nil, List.append_nil, List.nil_append, List.append_assoc, List.cons_append]) (by first | omega | (simp only [List.length_append, List.length_cons, List.length_nil, lb_length, dbl]; omega)) (by simp) W (pss_blk (hS.blk (i := 0) rfl) (pvc (hS.osl (i := 1) rfl) (pvc (sl_part (V := l) (n := 32) (off := 0) (hS.blk (i := 4) rfl) ap0 (by decide) (by decide)) (pvc (sl_part (V := r) (n := 32) (off := 0) (hS.blk (i := 3) rfl) ap0 (by decide) (by decide)) pv0)))) (GS_ext4 hG.1 hS.ext)) ?_
 refine TNp [0, 1, 3, 4] [0, 1, 2, 3] ?_
 refine TE (fun _ h => h.pick [0, 1, 3, 4]) ?_
 refine MR 2 ?_ 
 refine TNp [0, 1, 3, 4] [0, 1, 2, 3] ?_
 refine TZ (fun _ h => h.pick [0, 1, 3, 4]) fun W hS => ?_
 have e_ := HU1.out
 subst e_
 go_wp2
 exact bodyPost_ret (res_row rfl rfl (hS.blk (i := 2) rfl) (by kernel_rfl) (by rw [arrK_size]; kernel_rfl)) rfl ⟨rfl, hS.ext⟩
end Go.Proofs.YtejkmhgkkibafaaGreatDoor

set_option linter.unusedSimpArgs false
set_option linter.unusedVariables false
namespace Go.Proofs.YtejkmhgkkibafaaGreatDoor
open Go.RowKit
open S8 (Kn GA)
/-- what is laid for the program alone -/
abbrev kn0 : Kn := ⟨True, True, True, False⟩
def GX (w : World) : Prop := GS4 w ∧ GA kn0 w
abbrev gxF : List Nat := [11, 4, 13, 12, 8, 9, 5, 6, 14, 10, 7]
abbrev gx : As := .p gxF GX
theorem gx_holds {w : World} (h : GX w) : gx.holds w := by
  obtain ⟨⟨s1, s2⟩, ⟨⟨m1, m2⟩, e1, e2, e3, e4, e5⟩, ⟨r1, r2⟩, ⟨o1, o2, o3, o4, o5⟩, _⟩ := h
  replace e1 : Rd _ _ _ := e1 trivial
  replace e2 := e2 trivial
  replace e3 := e3 trivial
  replace e4 := e4 trivial
  replace e5 := e5 trivial
  refine ⟨⟨⟨s1, s2⟩, ⟨⟨m1, m2⟩, fun _ => e1, fun _ => e2, fun _ => e3, fun _ => e4, fun _ => e5⟩, ⟨r1, r2⟩, ⟨o1, o2, o3, o4, o5⟩, fun h => h.elim⟩, fun k hk => ?_, fun W hs he => ?_⟩
  · simp only [gxF, List.mem_cons, List.not_mem_nil, or_false] at hk
    rcases hk with rfl | rfl | rfl | rfl | rfl | rfl | rfl | rfl | rfl | rfl | rfl
    · exact s1.2
    · exact s2.2
    · exact m1.2
    · exact e1.2
    · exact e2.2
    · exact e3.2
    · exact e4.2
    · exact e5.2
    · exact r1.2
    · exact r2.2
    · exact o5
  · have c : ∀ j v, w.cell? ⟨7, j, none⟩ = some v → W.cell? ⟨7, j, none⟩ = some v := fun j v h => (World.cell?_of_block (w := w) (he _ (by simp))).trans h
    exact ⟨⟨rd_keep s1 hs (he _ (by simp)), rd_keep s2 hs (he _ (by simp))⟩, ⟨⟨rd_keep m1 hs (he _ (by simp)), trivial⟩, fun _ => rd_keep e1 hs (he _ (by simp)), fun _ => rd_keep e2 hs (he _ (by simp)), fun _ => rd_keep e3 hs (he _ (by simp)), fun _ => rd_keep e4 hs (he _ (by simp)), fun _ => rd_keep e5 hs (he _ (by simp))⟩, ⟨rd_keep r1 hs (he _ (by simp)), rd_keep r2 hs (he _ (by simp))⟩, ⟨c _ _ o1, c _ _ o2, c _ _ o3, c _ _ o4, Nat.lt_of_lt_of_le o5 hs⟩, fun h => h.elim⟩
theorem GX.gt {w : World} (h : GX w) : GT False w := ⟨h.1, fun x => x.elim⟩
theorem GX.ext {w W : World} (h : GX w) (k : Ext w W) : GX W := ⟨GS_ext4 h.1 k, S8.GA_ext h.2 k⟩
/-- of what is laid for a law -/
theorem GX.of {kn : Kn} {q : Prop} {w : World} (hd : kn.d) (hb : kn.b) (hc : kn.c) (hG : GT q w) (hA : GA kn w) : GX w := ⟨hG.1, ⟨hA.1.1, fun _ => hA.1.2.1 hc, fun _ => hA.1.2.2.1 hc, fun _ => hA.1.2.2.2.1 hd, fun _ => hA.1.2.2.2.2.1 hb, fun _ => hA.1.2.2.2.2.2 hb⟩, hA.2.1, hA.2.2.1, fun h => h.elim⟩
end Go.Proofs.YtejkmhgkkibafaaGreatDoor
