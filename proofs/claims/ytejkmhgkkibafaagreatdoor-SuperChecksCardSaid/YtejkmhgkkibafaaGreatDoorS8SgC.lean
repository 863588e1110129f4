/- sign: Verify. Conditions: the cells of the variables hold their numbers. -/
import Derived.Test.YtejkmhgkkibafaaGreatDoorJ6
import Derived.Test.YtejkmhgkkibafaaGreatDoorJ3
import Derived.Test.YtejkmhgkkibafaaGreatDoorJ8
import Derived.Test.YtejkmhgkkibafaaGreatDoorJ20
import Derived.Test.YtejkmhgkkibafaaGreatDoorJ21
set_option linter.unusedSimpArgs false
set_option linter.unusedVariables false
namespace Go.Proofs.YtejkmhgkkibafaaGreatDoor.S8
set_option maxHeartbeats 1000000
set_option maxRecDepth 100000
open Go.RowKit
attribute [local irreducible] wpList J01 wpX
variable {kn : Kn}
open Sc (LL J3t)
theorem Q80 {V : Nat} (hV : V < LL) (w : World) (hG : Sc.GL w) : Calls Tryz.prog 105 #[.agg (J0 .u8 32 (Q3 V))] w fun e w' => K6 (.tuple #[L4 V, .bool true]) w w' e := by
 have h := Sc.canon_c (Q3 V) (J38 V) w hG
 rw [J4e, show 8 * 32 = 256 from rfl, Nat.mod_eq_of_lt (Nat.lt_trans hV J1q), Sc.canonV, if_pos hV] at h
 exact h
theorem Z81 {V : Nat} (hV : LL ≤ V) (h2 : V < 2 ^ 256) (w : World) (hG : Sc.GL w) : Calls Tryz.prog 105 #[.agg (J0 .u8 32 (Q3 V))] w fun e w' => K6 (.tuple #[L4 0, .bool false]) w w' e := by
 have h := Sc.canon_c (Q3 V) (J38 V) w hG
 rw [J4e, show 8 * 32 = 256 from rfl, Nat.mod_eq_of_lt h2, Sc.canonV, if_neg (Nat.not_lt.2 hV)] at h
 exact h

theorem Z82 (hd : kn.d) (hb : kn.b) (hc : kn.c) {V G : Nat} (hV : V < 2 ^ 256) (hG2 : G < 2 ^ (256 + 256)) (v : Value) (L : List UInt8) (hL : L.length ≤ 1099511627776) (h1 : LL ≤ hi G) :
  ∀ w, GA kn w → Sl w v L → Calls Tryz.prog 61 #[.agg (J0 .u8 32 (Q3 V)), v, .agg (J0 .u8 64 (Q3 G))] w fun e w' => K6 (.int .i64 16) w w' e := by
 intro w hG hs
 have hS := SH.nil [] w
 go_enter Tryz.func61, Tryz.ntmps61
 go_upto_region 0 with fail
 refine RL hS ?_
 clear hS
 refine MN (z := J0 .u8 32 (Q3 V)) (t := 23) ?_
 intro J
 refine MN (z := J0 .u8 64 (Q3 G)) (t := 45) ?_
 intro D
 refine MW ?_ (v := .int .i64 0)
 refine MZ fun W hS => ?_
 go_upto_region 1 with fail
 refine RL hS ?_
 clear hS
 refine MW ?_ (v := .slice (some ⟨D, 32, none⟩) 32 32)
 refine MW ?_ (v := .pointer (some ⟨D, 32, none⟩)) (hv := by intro W; first | rfl | (go_simp; done) | (go_simp; with_reducible rfl))
 refine Ml 0 Y2d ?_
 refine MC (v := .tuple #[.agg (c4 0), .bool false]) (fun W hS => Z81 h1 (Q32 hG2) W (GA_ext hG hS.ext).2.2.1) ?_
 refine MV ?_
 refine MV ?_
 refine MW ?_ (v := .bool false)
 refine MN (z := c4 0) (t := 153) ?_
 intro M
 refine MR 0 ?_ 
 refine MW ?_ (v := .bool false)
 refine MZ fun W hS => ?_
 go_wp2
 exact bodyPost_ret (v := .int .i64 16) (by simp only [results, Tryz.results61]; go_simp) rfl ⟨rfl, hS.ext⟩
theorem Z83 (hd : kn.d) (hb : kn.b) (hc : kn.c) {V G : Nat} (hV : V < 2 ^ 256) (hG2 : G < 2 ^ (256 + 256)) (v : Value) (L : List UInt8) (hL : L.length ≤ 1099511627776) (h1 : hi G < LL) (h2 : dOk V = false) :
  ∀ w, GA kn w → Sl w v L → Calls Tryz.prog 61 #[.agg (J0 .u8 32 (Q3 V)), v, .agg (J0 .u8 64 (Q3 G))] w fun e w' => K6 (.int .i64 15) w w' e := by
 have dc := Y7a (kn := kn) hc (V := V) hV h2
 intro w hG hs
 have hS := SH.nil [] w
 go_enter Tryz.func61, Tryz.ntmps61
 go_upto_region 0 with fail
 refine RL hS ?_
 clear hS
 refine MN (z := J0 .u8 32 (Q3 V)) (t := 23) ?_
 intro J
 refine MN (z := J0 .u8 64 (Q3 G)) (t := 45) ?_
 intro D
 refine MW ?_ (v := .int .i64 0)
 refine MZ fun W hS => ?_
 go_upto_region 1 with fail
 refine RL hS ?_
 clear hS
 refine MW ?_ (v := .slice (some ⟨D, 32, none⟩) 32 32)
 refine MW ?_ (v := .pointer (some ⟨D, 32, none⟩)) (hv := by intro W; first | rfl | (go_simp; done) | (go_simp; with_reducible rfl))
 refine Ml 0 Y2d ?_
 refine MC (v := .tuple #[.agg (c4 (hi G)), .bool true]) (fun W hS => Q80 h1 W (GA_ext hG hS.ext).2.2.1) ?_
 refine MV ?_
 refine MV ?_
 refine MW ?_ (v := .bool true)
 refine MN (z := c4 0) (t := 153) ?_
 intro N
 refine MR 0 ?_ 
 refine MW ?_ (v := .bool true)
 refine MZ fun W hS => ?_
 go_upto_region 4 with fail
 refine RL hS ?_
 clear hS
 refine ML 2 ?_
 refine MC (v := .tuple #[.agg (p4 0 0 0 0), .int .i64 15]) (fun W hS => dc W (GA_ext hG hS.ext).1) ?_
 refine MV ?_
 refine MV ?_
 refine MW ?_ (v := .int .i64 15)
 refine MN (z := p4 0 0 0 0) (t := 157) ?_
 intro M
 refine MR 0 ?_ 
 refine MW ?_ (v := .int .i64 15)
 refine MZ fun W hS => ?_
 go_wp2
 exact bodyPost_ret (v := .int .i64 15) (by simp only [results, Tryz.results61]; go_simp) rfl ⟨rfl, hS.ext⟩
theorem Z84 (hd : kn.d) (hb : kn.b) (hc : kn.c) {V G : Nat} (hV : V < 2 ^ 256) (hG2 : G < 2 ^ (256 + 256)) (v : Value) (L : List UInt8) (hL : L.length ≤ 1099511627776) (h1 : hi G < LL) (h2 : dOk V = true) :
  ∀ w, GA kn w → Sl w v L → Calls Tryz.prog 61 #[.agg (J0 .u8 32 (Q3 V)), v, .agg (J0 .u8 64 (Q3 G))] w fun e w' => K6 (.int .i64 (vfy V L G : Int)) w w' e := by
 obtain ⟨dx, dt, dr, dc⟩ := Y7c hc (V := V) hV h2
 obtain ⟨y0, γ⟩ := V0 (V % 2 ^ 255)
 rw [← γ] at dr dc
 have D8 := Lib.hid γ
 clear γ
 obtain ⟨U1, α⟩ := V0 (hs ((lb 32 (lo G)) ++ (lb 32 V) ++ L) % LL)
 have β : U1 < LL := by rw [α]; exact mLL _
 have D6 : U1 < 2 ^ 256 := Nat.lt_trans β J1q
 have S := Lib.hid α
 clear α
 obtain ⟨x1, y2, z3, t4, r5, c6⟩ := Q5r hb
 obtain ⟨x7, y8, z9, Θ, D5, ω⟩ := J9r hd r5.rw (N := (hi G)) (Nat.lt_trans h1 J1q)
 obtain ⟨Ψ, Δ, D4, ρ, μ, Γ⟩ := Y77 (kn := kn) dr.rw
 obtain ⟨ν, D0, D3, χ, σ, κ⟩ := J9r hd μ.rw (N := U1) (Nat.lt_trans β J1q)
 obtain ⟨D1, D2, τ, ψ, ε, ξ⟩ := Z6x hd D5.rw σ.rw
 obtain ⟨U2, Z⟩ := V0 (enc (J12 (pm BP (hi G)) (pm (J5c (dPt V)) U1)))
 have η : U2 < 2 ^ 256 := by rw [Z]; exact Q0d _
 have Y := Lib.hid Z
 clear Z
 intro w hG hs
 have hS := SH.nil [] w
 go_enter Tryz.func61, Tryz.ntmps61
 go_upto_region 0 with fail
 refine RL hS ?_
 clear hS
 refine MN (z := J0 .u8 32 (Q3 V)) (t := 23) ?_
 intro J
 refine MN (z := J0 .u8 64 (Q3 G)) (t := 45) ?_
 intro D
 refine MW ?_ (v := .int .i64 0)
 refine MZ fun W hS => ?_
 go_upto_region 1 with fail
 refine RL hS ?_
 clear hS
 refine MW ?_ (v := .slice (some ⟨D, 32, none⟩) 32 32)
 refine MW ?_ (v := .pointer (some ⟨D, 32, none⟩)) (hv := by intro W; first | rfl | (go_simp; done) | (go_simp; with_reducible rfl))
 refine Ml 0 Y2d ?_
 refine MC (v := .tuple #[.agg (c4 (hi G)), .bool true]) (fun W hS => Q80 h1 W (GA_ext hG hS.ext).2.2.1) ?_
 refine MV ?_
 refine MV ?_
 refine MW ?_ (v := .bool true)
 refine MN (z := c4 0) (t := 153) ?_
 intro θ
 refine MR 0 ?_ 
 refine MW ?_ (v := .bool true)
 refine MZ fun W hS => ?_
 go_upto_region 4 with fail
 refine RL hS ?_
 clear hS
 refine ML 2 ?_
 refine MC (v := .tuple #[.agg (p4 dx y0 1 dt), .int .i64 0]) (fun W hS => dc W (GA_ext hG hS.ext).1) ?_
 refine MV ?_
 refine MV ?_
 refine MW ?_ (v := .int .i64 0)
 refine MN (z := p4 0 0 0 0) (t := 157) ?_
 intro δ
 refine MR 0 ?_ 
 refine MW ?_ (v := .int .i64 0)
 refine MZ fun W hS => ?_
 go_upto_region 7 with fail
 refine RJ (R := fun a_ w_ => ∃ (U : Nat), ∃ (T : Nat), a_ = { tmps := List.toArray ((.agg (J0 .u8 32 (Q3 V))) :: v :: (.agg (J0 .u8 64 (Q3 G))) :: (.pointer (some ⟨J, 0, none⟩)) :: undef :: (.pointer (some ⟨D, 0, none⟩)) :: (.int .i64 0) :: (.pointer (some ⟨θ, 0, none⟩)) :: (.bool true) :: (.pointer (some ⟨δ, 0, none⟩)) :: (.int .i64 0) :: (.pointer (some ⟨U, 0, none⟩)) :: undef :: (.tuple #[.agg (c4 (hi G)), .bool true]) :: (.slice (some ⟨D, 32, none⟩) 32 32) :: (.pointer (some ⟨D, 32, none⟩)) :: (.agg (J0 .u8 32 (Q3 (hi G)))) :: (.tuple #[.agg (c4 (hi G)), .bool true]) :: (.agg (c4 (hi G))) :: (.bool true) :: (.bool true) :: (.bool false) :: (.tuple #[.agg (p4 dx y0 1 dt), .int .i64 0]) :: (.agg (J0 .u8 32 (Q3 V))) :: (.tuple #[.agg (p4 dx y0 1 dt), .int .i64 0]) :: (.agg (p4 dx y0 1 dt)) :: (.int .i64 0) :: (.int .i64 0) :: (.bool false) :: undef :: (.slice (some ⟨D, 0, none⟩) 32 64) :: (.slice (some ⟨J, 0, none⟩) 32 32) :: v :: (.slice (some ⟨T, 0, none⟩) 3 3) :: (.agg (c4 U1)) :: undef :: undef :: undef :: undef :: undef :: undef :: undef :: undef :: undef :: undef :: undef :: undef :: undef :: undef :: undef :: undef :: []), defers := [] } ∧ SH [] w w_ [.b T #[.slice (some ⟨D, 0, none⟩) 32 64, .slice (some ⟨J, 0, none⟩) 32 32, v] 22, .b U (c4 U1) 153, .b J (J0 .u8 32 (Q3 V)) 23, .b D (J0 .u8 64 (Q3 G)) 45, .b θ (c4 (hi G)) 153, .b δ (p4 dx y0 1 dt) 157]) ?_ ?_
 ·
  refine RTh (.q 0 (.q 1 (.q 2 (.b 3 (.b 4 (.e 5 (.e 6 .z)) 5 (.e 4 (.e 6 .z))) 5 (.e 3 (.e 4 (.e 6 .z))))))) hS ?_
  clear hS
  refine TW ?_ (v := .slice (some ⟨D, 0, none⟩) 32 64)
  refine TW ?_ (v := .slice (some ⟨J, 0, none⟩) 32 32)
  refine TV ?_
  refine TB (fun _ h => h) ?_ ?_
  ·
   refine MB (z := #[.slice (some ⟨D, 0, none⟩) 32 64, .slice (some ⟨J, 0, none⟩) 32 32, v]) (t := 22) (n := 3) (c := 3) ?_ (hr := fun W hS => J2s [.slice (some ⟨D, 0, none⟩) 32 64, .slice (some ⟨J, 0, none⟩) 32 32, v] rfl rfl (vsc (K9 (K1 (V := (lo G)) (n := 32) (off := 0) (c := 64) (hS.blk (i := 2) rfl) Q7y (by decide) (by decide))).1 (vsc (K9 (K1 (V := V) (n := 32) (off := 0) (c := 32) (hS.blk (i := 3) rfl) ap0 (by decide) (by decide))).1 (vsc (K9 (J5t hs hS.ext)).1 vs0))) Tryz.underlying113 (by kernel_rfl) (by kernel_rfl) rfl (by decide) (by decide))
   intro X
   refine TNh (fun W hS => hS.pick [1, 2, 3, 4]) ?_
   refine TB (fun _ h => h) ?_ ?_
   ·
    refine MC (v := .agg (c4 U1)) (fun W hS => J54 (kn := kn) S.out [lb 32 (lo G), lb 32 V, L] (some ⟨X, 0, none⟩) 3 (by simp only [List.flatten_cons, List.flatten_nil, List.append_nil, List.nil_append, List.append_assoc, List.cons_append]) (by first | omega | (simp only [List.length_append, List.length_cons, List.length_nil, Q1]; omega)) (by simp) W (J26 (hS.blk (i := 0) rfl) (pvc (K1 (V := (lo G)) (n := 32) (off := 0) (c := 64) (hS.blk (i := 3) rfl) Q7y (by decide) (by decide)) (pvc (K1 (V := V) (n := 32) (off := 0) (c := 32) (hS.blk (i := 4) rfl) ap0 (by decide) (by decide)) (pvc (J5t hs hS.ext) pv0)))) (GA_ext hG hS.ext)) ?_
    refine TNh (fun W hS => hS) ?_
    refine TE (fun _ h => h) ?_
    refine MN (z := c4 0) (t := 153) ?_
    intro Ω
    refine TNp [1, 2, 3, 4, 5] [0, 1, 2, 3, 4] ?_
    refine TE (fun _ h => h.pick [1, 2, 3, 4, 5]) ?_
    refine MR 0 ?_ 
    refine TNp [1, 2, 3, 4, 5] [0, 1, 2, 3, 4] ?_
    refine TZ (fun _ h => h.pick [1, 2, 3, 4, 5]) fun W hS => ?_
    exact ⟨Ω, X, rfl, hS.pick [1, 0, 5, 4, 3, 2]⟩
   refine MN (z := c4 0) (t := 153) ?_
   intro Ξ
   refine TNp [1, 2, 3, 4, 5] [0, 1, 2, 3, 4] ?_
   refine TE (fun _ h => h.pick [1, 2, 3, 4, 5]) ?_
   refine MC (v := .agg (c4 U1)) (fun W hS => J54 (kn := kn) S.out [lb 32 (lo G), lb 32 V, L] (some ⟨X, 0, none⟩) 3 (by simp only [List.flatten_cons, List.flatten_nil, List.append_nil, List.nil_append, List.append_assoc, List.cons_append]) (by first | omega | (simp only [List.length_append, List.length_cons, List.length_nil, Q1]; omega)) (by simp) W (J26 (hS.blk (i := 1) rfl) (pvc (K1 (V := (lo G)) (n := 32) (off := 0) (c := 64) (hS.blk (i := 4) rfl) Q7y (by decide) (by decide)) (pvc (K1 (V := V) (n := 32) (off := 0) (c := 32) (hS.blk (i := 5) rfl) ap0 (by decide) (by decide)) (pvc (J5t hs hS.ext) pv0)))) (GA_ext hG hS.ext)) ?_
   refine TNp [1, 2, 3, 4, 5] [0, 1, 2, 3, 4] ?_
   refine TE (fun _ h => h.pick [1, 2, 3, 4, 5]) ?_
   refine MR 0 ?_ 
   refine TNp [1, 2, 3, 4, 5] [0, 1, 2, 3, 4] ?_
   refine TZ (fun _ h => h.pick [1, 2, 3, 4, 5]) fun W hS => ?_
   exact ⟨Ξ, X, rfl, hS.pick [1, 0, 5, 4, 3, 2]⟩
  refine MN (z := c4 0) (t := 153) ?_
  intro φ
  refine TNp [1, 2, 3, 4] [0, 1, 2, 3] ?_
  refine TE (fun _ h => h.pick [1, 2, 3, 4]) ?_
  refine MB (z := #[.slice (some ⟨D, 0, none⟩) 32 64, .slice (some ⟨J, 0, none⟩) 32 32, v]) (t := 22) (n := 3) (c := 3) ?_ (hr := fun W hS => J2s [.slice (some ⟨D, 0, none⟩) 32 64, .slice (some ⟨J, 0, none⟩) 32 32, v] rfl rfl (vsc (K9 (K1 (V := (lo G)) (n := 32) (off := 0) (c := 64) (hS.blk (i := 3) rfl) Q7y (by decide) (by decide))).1 (vsc (K9 (K1 (V := V) (n := 32) (off := 0) (c := 32) (hS.blk (i := 4) rfl) ap0 (by decide) (by decide))).1 (vsc (K9 (J5t hs hS.ext)).1 vs0))) Tryz.underlying113 (by kernel_rfl) (by kernel_rfl) rfl (by decide) (by decide))
  intro ζ
  refine TNp [0, 2, 3, 4, 5] [1, 2, 3, 4] ?_
  refine TE (fun _ h => h.pick [0, 2, 3, 4, 5]) ?_
  refine MC (v := .agg (c4 U1)) (fun W hS => J54 (kn := kn) S.out [lb 32 (lo G), lb 32 V, L] (some ⟨ζ, 0, none⟩) 3 (by simp only [List.flatten_cons, List.flatten_nil, List.append_nil, List.nil_append, List.append_assoc, List.cons_append]) (by first | omega | (simp only [List.length_append, List.length_cons, List.length_nil, Q1]; omega)) (by simp) W (J26 (hS.blk (i := 0) rfl) (pvc (K1 (V := (lo G)) (n := 32) (off := 0) (c := 64) (hS.blk (i := 4) rfl) Q7y (by decide) (by decide)) (pvc (K1 (V := V) (n := 32) (off := 0) (c := 32) (hS.blk (i := 5) rfl) ap0 (by decide) (by decide)) (pvc (J5t hs hS.ext) pv0)))) (GA_ext hG hS.ext)) ?_
  refine TNp [0, 2, 3, 4, 5] [0, 1, 2, 3, 4] ?_
  refine TE (fun _ h => h.pick [0, 2, 3, 4, 5]) ?_
  refine MR 1 ?_ 
  refine TNp [0, 2, 3, 4, 5] [0, 1, 2, 3, 4] ?_
  refine TZ (fun _ h => h.pick [0, 2, 3, 4, 5]) fun W hS => ?_
  exact ⟨φ, ζ, rfl, hS.pick [0, 1, 5, 4, 3, 2]⟩
 rintro _ W ⟨U, T, rfl, hS⟩
 go_upto_region 8 with fail
 refine RXn 10 [⟨10, 12, p4 0 0 0 0, 157⟩] hS ?_ (by simp only [List.forall_mem_cons]; exact ⟨⟨_, rfl, rfl, rfl, fun _ _ => by kernel_rfl⟩, fun _ h => by cases h⟩)
 clear hS
 refine MC (v := .agg (p4 x1 y2 z3 t4)) (fun W hS => c6 W (GA_ext hG hS.ext).1) ?_
 refine ML 4 ?_
 refine MC (v := .agg (J0 .u8 32 (Q3 (hi G)))) (fun W hS => J9w h1 W (GA_ext hG hS.ext).2.2.1) ?_
 refine MC (v := .agg (p4 x7 y8 z9 Θ)) (fun W hS => ω W (GA_ext hG hS.ext).1) ?_
 refine ML 5 ?_
 refine MC (v := .agg (p4 Ψ Δ D4 ρ)) (fun W hS => Γ W (GA_ext hG hS.ext).1) ?_
 refine ML 1 ?_
 refine MC (v := .agg (J0 .u8 32 (Q3 U1))) (fun W hS => J9w β W (GA_ext hG hS.ext).2.2.1) ?_
 refine MC (v := .agg (p4 ν D0 D3 χ)) (fun W hS => κ W (GA_ext hG hS.ext).1) ?_
 refine MC (v := .agg (p4 D1 D2 τ ψ)) (fun W hS => ξ W (GA_ext hG hS.ext).1) ?_
 refine MZB fun D7 => ?_
 refine MR 0 ?_ 
 refine MZn fun W hS => ?_
 by_cases h3 : U2 = lo G
 ·
  go_upto_region 9 with fail
  refine RS hS ?_
  clear hS
  refine ML 0 ?_
  refine MC (v := .agg (J0 .u8 32 (Q3 U2))) (fun W hS => Q68 ε.rw Y.out W (GA_ext hG hS.ext).1) ?_
  refine MW ?_ (v := .slice (some ⟨D, 0, none⟩) 32 64)
  refine MW ?_ (v := .pointer (some ⟨D, 0, none⟩)) (hv := by intro W; first | rfl | (go_simp; done) | (go_simp; with_reducible rfl))
  refine Ml 4 Q7y ?_
  have M := Z10 U2 (lo G) η (Z85 _)
  rw [decide_eq_true h3] at M
  refine MW ?_ (v := .bool false) (hv := fun _ => J3p ((M) _) (by kernel_rfl) rfl rfl rfl)
  refine MZx fun W hS => ?_
  go_wp2
  rw [Y.out, S.out] at h3
  have h3' : enc (vP V L G) = lo G := h3
  rw [show vfy V L G = 0 by unfold vfy; rw [if_neg (Nat.not_le.2 h1), if_neg (by rw [h2]; decide), if_pos h3']]
  exact bodyPost_ret (v := .int .i64 0) (by simp only [results, Tryz.results61]; go_simp) rfl ⟨rfl, hS.ext⟩
 go_upto_region 9 with fail
 refine RS hS ?_
 clear hS
 refine ML 0 ?_
 refine MC (v := .agg (J0 .u8 32 (Q3 U2))) (fun W hS => Q68 ε.rw Y.out W (GA_ext hG hS.ext).1) ?_
 refine MW ?_ (v := .slice (some ⟨D, 0, none⟩) 32 64)
 refine MW ?_ (v := .pointer (some ⟨D, 0, none⟩)) (hv := by intro W; first | rfl | (go_simp; done) | (go_simp; with_reducible rfl))
 refine Ml 4 Q7y ?_
 have M := Z10 U2 (lo G) η (Z85 _)
 rw [decide_eq_false h3] at M
 refine MW ?_ (v := .bool true) (hv := fun _ => J3p ((M) _) (by kernel_rfl) rfl rfl rfl)
 refine MZx fun W hS => ?_
 go_wp2
 rw [Y.out, S.out] at h3
 have h3' : enc (vP V L G) ≠ lo G := h3
 rw [show vfy V L G = 16 by unfold vfy; rw [if_neg (Nat.not_le.2 h1), if_neg (by rw [h2]; decide), if_neg h3']]
 exact bodyPost_ret (v := .int .i64 16) (by simp only [results, Tryz.results61]; go_simp) rfl ⟨rfl, hS.ext⟩
theorem Z86 (hd : kn.d) (hb : kn.b) (hc : kn.c) {V G : Nat} (hV : V < 2 ^ 256) (hG2 : G < 2 ^ (256 + 256)) (v : Value) (L : List UInt8) (hL : L.length ≤ 1099511627776) (w : World) (hG : GA kn w) (hs : Sl w v L) :
  Calls Tryz.prog 61 #[.agg (J0 .u8 32 (Q3 V)), v, .agg (J0 .u8 64 (Q3 G))] w fun e w' => K6 (.int .i64 (vfy V L G : Int)) w w' e := by
 by_cases h1 : LL ≤ hi G
 ·
  rw [show vfy V L G = 16 by unfold vfy; rw [if_pos h1]]; exact Z82 hd hb hc hV hG2 v L hL h1 w hG hs
 cases h2 : dOk V
 ·
  rw [show vfy V L G = 15 by unfold vfy; rw [if_neg h1, if_pos h2]]; exact Z83 hd hb hc hV hG2 v L hL (Nat.not_le.1 h1) h2 w hG hs
 exact Z84 hd hb hc hV hG2 v L hL (Nat.not_le.1 h1) h2 w hG hs
end Go.Proofs.YtejkmhgkkibafaaGreatDoor.S8
