/- sign: Verify. Conditions: the cells of the variables hold their numbers. -/
import Derived.Test.YtejkmhgkkibafaaGreatDoorJ6
import Derived.Test.YtejkmhgkkibafaaGreatDoorJ3
import Derived.Test.YtejkmhgkkibafaaGreatDoorJ8
import Derived.Test.YtejkmhgkkibafaaGreatDoorJ20
import Derived.Test.YtejkmhgkkibafaaGreatDoorJ21
set_option linter.unusedSimpArgs false
set_option linter.unusedVariables false
namespace Go.Proofs.YtejkmhgkkibafaaGreatDoor.S8
set_option maxHeartbeats 1000000
set_option maxRecDepth 100000
open Go.RowKit
attribute [local irreducible] wpList U0 wpX
variable {kn : Kn}
open Sc (LL J3j)
theorem Q7o {V : Nat} (hV : V < LL) (w : World) (hG : Sc.GL w) : Calls Tryz.prog 105 #[.agg (J0 .u8 32 (Q3 V))] w fun e w' => K7 (.tuple #[L4 V, .bool true]) w w' e := by
 have h := Sc.canon_c (Q3 V) (J2y V) w hG
 rw [J44, show 8 * 32 = 256 from rfl, Nat.mod_eq_of_lt (Nat.lt_trans hV J1i), Sc.canonV, if_pos hV] at h
 exact h
theorem Z7j {V : Nat} (hV : LL ≤ V) (h2 : V < 2 ^ 256) (w : World) (hG : Sc.GL w) : Calls Tryz.prog 105 #[.agg (J0 .u8 32 (Q3 V))] w fun e w' => K7 (.tuple #[L4 0, .bool false]) w w' e := by
 have h := Sc.canon_c (Q3 V) (J2y V) w hG
 rw [J44, show 8 * 32 = 256 from rfl, Nat.mod_eq_of_lt h2, Sc.canonV, if_neg (Nat.not_lt.2 hV)] at h
 exact h

theorem Z7k (hd : kn.d) (hb : kn.b) (hc : kn.c) {V G : Nat} (hV : V < 2 ^ 256) (hG2 : G < 2 ^ (256 + 256)) (v : Value) (L : List UInt8) (hL : L.length ≤ 1099511627776) (h1 : LL ≤ hi G) :
  ∀ w, GA kn w → Sl w v L → Calls Tryz.prog 61 #[.agg (J0 .u8 32 (Q3 V)), v, .agg (J0 .u8 64 (Q3 G))] w fun e w' => K7 (.int .i64 16) w w' e := by
 intro w hG hs
 have hS := SH.nil [] w
 go_enter Tryz.func61, Tryz.ntmps61
 go_upto_region 0 with fail
 refine RL hS ?_
 clear hS
 refine MN (z := J0 .u8 32 (Q3 V)) (t := 23) ?_
 intro M
 refine MN (z := J0 .u8 64 (Q3 G)) (t := 45) ?_
 intro D
 refine MW ?_ (v := .int .i64 0)
 refine MZ fun W hS => ?_
 go_upto_region 1 with fail
 refine RL hS ?_
 clear hS
 refine MW ?_ (v := .slice (some ⟨D, 32, none⟩) 32 32)
 refine MW ?_ (v := .pointer (some ⟨D, 32, none⟩)) (hv := by intro W; first | rfl | (go_simp; done) | (go_simp; with_reducible rfl))
 refine Ml 0 Y1s ?_
 refine MC (v := .tuple #[.agg (c4 0), .bool false]) (fun W hS => Z7j h1 (Q2s hG2) W (GA_ext hG hS.ext).2.2.1) ?_
 refine MV ?_
 refine MV ?_
 refine MW ?_ (v := .bool false)
 refine MN (z := c4 0) (t := 153) ?_
 intro J
 refine MR 0 ?_ 
 refine MW ?_ (v := .bool false)
 refine MZ fun W hS => ?_
 go_wp2
 exact bodyPost_ret (v := .int .i64 16) (by simp only [results, Tryz.results61]; go_simp) rfl ⟨rfl, hS.ext⟩
theorem Z7l (hd : kn.d) (hb : kn.b) (hc : kn.c) {V G : Nat} (hV : V < 2 ^ 256) (hG2 : G < 2 ^ (256 + 256)) (v : Value) (L : List UInt8) (hL : L.length ≤ 1099511627776) (h1 : hi G < LL) (h2 : dOk V = false) :
  ∀ w, GA kn w → Sl w v L → Calls Tryz.prog 61 #[.agg (J0 .u8 32 (Q3 V)), v, .agg (J0 .u8 64 (Q3 G))] w fun e w' => K7 (.int .i64 15) w w' e := by
 have dc := Y6o (kn := kn) hc (V := V) hV h2
 intro w hG hs
 have hS := SH.nil [] w
 go_enter Tryz.func61, Tryz.ntmps61
 go_upto_region 0 with fail
 refine RL hS ?_
 clear hS
 refine MN (z := J0 .u8 32 (Q3 V)) (t := 23) ?_
 intro M
 refine MN (z := J0 .u8 64 (Q3 G)) (t := 45) ?_
 intro D
 refine MW ?_ (v := .int .i64 0)
 refine MZ fun W hS => ?_
 go_upto_region 1 with fail
 refine RL hS ?_
 clear hS
 refine MW ?_ (v := .slice (some ⟨D, 32, none⟩) 32 32)
 refine MW ?_ (v := .pointer (some ⟨D, 32, none⟩)) (hv := by intro W; first | rfl | (go_simp; done) | (go_simp; with_reducible rfl))
 refine Ml 0 Y1s ?_
 refine MC (v := .tuple #[.agg (c4 (hi G)), .bool true]) (fun W hS => Q7o h1 W (GA_ext hG hS.ext).2.2.1) ?_
 refine MV ?_
 refine MV ?_
 refine MW ?_ (v := .bool true)
 refine MN (z := c4 0) (t := 153) ?_
 intro J
 refine MR 0 ?_ 
 refine MW ?_ (v := .bool true)
 refine MZ fun W hS => ?_
 go_upto_region 4 with fail
 refine RL hS ?_
 clear hS
 refine ML 2 ?_
 refine MC (v := .tuple #[.agg (p4 0 0 0 0), .int .i64 15]) (fun W hS => dc W (GA_ext hG hS.ext).1) ?_
 refine MV ?_
 refine MV ?_
 refine MW ?_ (v := .int .i64 15)
 refine MN (z := p4 0 0 0 0) (t := 157) ?_
 intro N
 refine MR 0 ?_ 
 refine MW ?_ (v := .int .i64 15)
 refine MZ fun W hS => ?_
 go_wp2
 exact bodyPost_ret (v := .int .i64 15) (by simp only [results, Tryz.results61]; go_simp) rfl ⟨rfl, hS.ext⟩
theorem Z7m (hd : kn.d) (hb : kn.b) (hc : kn.c) {V G : Nat} (hV : V < 2 ^ 256) (hG2 : G < 2 ^ (256 + 256)) (v : Value) (L : List UInt8) (hL : L.length ≤ 1099511627776) (h1 : hi G < LL) (h2 : dOk V = true) :
  ∀ w, GA kn w → Sl w v L → Calls Tryz.prog 61 #[.agg (J0 .u8 32 (Q3 V)), v, .agg (J0 .u8 64 (Q3 G))] w fun e w' => K7 (.int .i64 (vfy V L G : Int)) w w' e := by
 obtain ⟨dx, dt, dr, dc⟩ := Y6q hc (V := V) hV h2
 obtain ⟨y0, Z⟩ := V3 (V % 2 ^ 255)
 rw [← Z] at dr dc
 have D6 := Lib.hid Z
 clear Z
 obtain ⟨U1, α⟩ := V3 (hs ((lb 32 (lo G)) ++ (lb 32 V) ++ L) % LL)
 have γ : U1 < LL := by rw [α]; exact mLL _
 have D7 : U1 < 2 ^ 256 := Nat.lt_trans γ J1i
 have S := Lib.hid α
 clear α
 obtain ⟨x1, y2, z3, t4, r5, c6⟩ := Q5f hb
 obtain ⟨x7, y8, z9, Ξ, μ, D3⟩ := J9g hd r5.rw (N := (hi G)) (Nat.lt_trans h1 J1i)
 obtain ⟨D4, Δ, ψ, D0, Ψ, Ω⟩ := Y6l (kn := kn) dr.rw
 obtain ⟨τ, ν, D5, ρ, D1, ξ⟩ := J9g hd Ψ.rw (N := U1) (Nat.lt_trans γ J1i)
 obtain ⟨φ, Γ, D2, Θ, δ, κ⟩ := Z6h hd μ.rw D1.rw
 obtain ⟨U2, β⟩ := V3 (enc (J0w (pm BP (hi G)) (pm (J52 (dPt V)) U1)))
 have ζ : U2 < 2 ^ 256 := by rw [β]; exact Q02 _
 have Y := Lib.hid β
 clear β
 intro w hG hs
 have hS := SH.nil [] w
 go_enter Tryz.func61, Tryz.ntmps61
 go_upto_region 0 with fail
 refine RL hS ?_
 clear hS
 refine MN (z := J0 .u8 32 (Q3 V)) (t := 23) ?_
 intro J
 refine MN (z := J0 .u8 64 (Q3 G)) (t := 45) ?_
 intro D
 refine MW ?_ (v := .int .i64 0)
 refine MZ fun W hS => ?_
 go_upto_region 1 with fail
 refine RL hS ?_
 clear hS
 refine MW ?_ (v := .slice (some ⟨D, 32, none⟩) 32 32)
 refine MW ?_ (v := .pointer (some ⟨D, 32, none⟩)) (hv := by intro W; first | rfl | (go_simp; done) | (go_simp; with_reducible rfl))
 refine Ml 0 Y1s ?_
 refine MC (v := .tuple #[.agg (c4 (hi G)), .bool true]) (fun W hS => Q7o h1 W (GA_ext hG hS.ext).2.2.1) ?_
 refine MV ?_
 refine MV ?_
 refine MW ?_ (v := .bool true)
 refine MN (z := c4 0) (t := 153) ?_
 intro η
 refine MR 0 ?_ 
 refine MW ?_ (v := .bool true)
 refine MZ fun W hS => ?_
 go_upto_region 4 with fail
 refine RL hS ?_
 clear hS
 refine ML 2 ?_
 refine MC (v := .tuple #[.agg (p4 dx y0 1 dt), .int .i64 0]) (fun W hS => dc W (GA_ext hG hS.ext).1) ?_
 refine MV ?_
 refine MV ?_
 refine MW ?_ (v := .int .i64 0)
 refine MN (z := p4 0 0 0 0) (t := 157) ?_
 intro ε
 refine MR 0 ?_ 
 refine MW ?_ (v := .int .i64 0)
 refine MZ fun W hS => ?_
 go_upto_region 7 with fail
 refine RJ (R := fun a_ w_ => ∃ (U : Nat), ∃ (T : Nat), a_ = { tmps := List.toArray ((.agg (J0 .u8 32 (Q3 V))) :: v :: (.agg (J0 .u8 64 (Q3 G))) :: (.pointer (some ⟨J, 0, none⟩)) :: undef :: (.pointer (some ⟨D, 0, none⟩)) :: (.int .i64 0) :: (.pointer (some ⟨η, 0, none⟩)) :: (.bool true) :: (.pointer (some ⟨ε, 0, none⟩)) :: (.int .i64 0) :: (.pointer (some ⟨U, 0, none⟩)) :: undef :: (.tuple #[.agg (c4 (hi G)), .bool true]) :: (.slice (some ⟨D, 32, none⟩) 32 32) :: (.pointer (some ⟨D, 32, none⟩)) :: (.agg (J0 .u8 32 (Q3 (hi G)))) :: (.tuple #[.agg (c4 (hi G)), .bool true]) :: (.agg (c4 (hi G))) :: (.bool true) :: (.bool true) :: (.bool false) :: (.tuple #[.agg (p4 dx y0 1 dt), .int .i64 0]) :: (.agg (J0 .u8 32 (Q3 V))) :: (.tuple #[.agg (p4 dx y0 1 dt), .int .i64 0]) :: (.agg (p4 dx y0 1 dt)) :: (.int .i64 0) :: (.int .i64 0) :: (.bool false) :: undef :: (.slice (some ⟨D, 0, none⟩) 32 64) :: (.slice (some ⟨J, 0, none⟩) 32 32) :: v :: (.slice (some ⟨T, 0, none⟩) 3 3) :: (.agg (c4 U1)) :: undef :: undef :: undef :: undef :: undef :: undef :: undef :: undef :: undef :: undef :: undef :: undef :: undef :: undef :: undef :: undef :: []), defers := [] } ∧ SH [] w w_ [.b T #[.slice (some ⟨D, 0, none⟩) 32 64, .slice (some ⟨J, 0, none⟩) 32 32, v] 22, .b U (c4 U1) 153, .b J (J0 .u8 32 (Q3 V)) 23, .b D (J0 .u8 64 (Q3 G)) 45, .b η (c4 (hi G)) 153, .b ε (p4 dx y0 1 dt) 157]) ?_ ?_
 ·
  refine RTh (.q 0 (.q 1 (.q 2 (.b 3 (.b 4 (.e 5 (.e 6 .z)) 5 (.e 4 (.e 6 .z))) 5 (.e 3 (.e 4 (.e 6 .z))))))) hS ?_
  clear hS
  refine TW ?_ (v := .slice (some ⟨D, 0, none⟩) 32 64)
  refine TW ?_ (v := .slice (some ⟨J, 0, none⟩) 32 32)
  refine TV ?_
  refine TB (fun _ h => h) ?_ ?_
  ·
   refine MB (z := #[.slice (some ⟨D, 0, none⟩) 32 64, .slice (some ⟨J, 0, none⟩) 32 32, v]) (t := 22) (n := 3) (c := 3) ?_ (hr := fun W hS => J2k [.slice (some ⟨D, 0, none⟩) 32 64, .slice (some ⟨J, 0, none⟩) 32 32, v] rfl rfl (vsc (K6 (K0 (V := (lo G)) (n := 32) (off := 0) (c := 64) (hS.blk (i := 2) rfl) Q7m (by decide) (by decide))).1 (vsc (K6 (K0 (V := V) (n := 32) (off := 0) (c := 32) (hS.blk (i := 3) rfl) ap0 (by decide) (by decide))).1 (vsc (K6 (J5j hs hS.ext)).1 vs0))) Tryz.underlying113 (by kernel_rfl) (by kernel_rfl) rfl (by decide) (by decide))
   intro X
   refine TNh (fun W hS => hS.pick [1, 2, 3, 4]) ?_
   refine TB (fun _ h => h) ?_ ?_
   ·
    refine MC (v := .agg (c4 U1)) (fun W hS => J4u (kn := kn) S.out [lb 32 (lo G), lb 32 V, L] (some ⟨X, 0, none⟩) 3 (by simp only [List.flatten_cons, List.flatten_nil, List.append_nil, List.nil_append, List.append_assoc, List.cons_append]) (by first | omega | (simp only [List.length_append, List.length_cons, List.length_nil, J8]; omega)) (by simp) W (J1z (hS.blk (i := 0) rfl) (pvc (K0 (V := (lo G)) (n := 32) (off := 0) (c := 64) (hS.blk (i := 3) rfl) Q7m (by decide) (by decide)) (pvc (K0 (V := V) (n := 32) (off := 0) (c := 32) (hS.blk (i := 4) rfl) ap0 (by decide) (by decide)) (pvc (J5j hs hS.ext) pv0)))) (GA_ext hG hS.ext)) ?_
    refine TNh (fun W hS => hS) ?_
    refine TE (fun _ h => h) ?_
    refine MN (z := c4 0) (t := 153) ?_
    intro χ
    refine TNp [1, 2, 3, 4, 5] [0, 1, 2, 3, 4] ?_
    refine TE (fun _ h => h.pick [1, 2, 3, 4, 5]) ?_
    refine MR 0 ?_ 
    refine TNp [1, 2, 3, 4, 5] [0, 1, 2, 3, 4] ?_
    refine TZ (fun _ h => h.pick [1, 2, 3, 4, 5]) fun W hS => ?_
    exact ⟨χ, X, rfl, hS.pick [1, 0, 5, 4, 3, 2]⟩
   refine MN (z := c4 0) (t := 153) ?_
   intro σ
   refine TNp [1, 2, 3, 4, 5] [0, 1, 2, 3, 4] ?_
   refine TE (fun _ h => h.pick [1, 2, 3, 4, 5]) ?_
   refine MC (v := .agg (c4 U1)) (fun W hS => J4u (kn := kn) S.out [lb 32 (lo G), lb 32 V, L] (some ⟨X, 0, none⟩) 3 (by simp only [List.flatten_cons, List.flatten_nil, List.append_nil, List.nil_append, List.append_assoc, List.cons_append]) (by first | omega | (simp only [List.length_append, List.length_cons, List.length_nil, J8]; omega)) (by simp) W (J1z (hS.blk (i := 1) rfl) (pvc (K0 (V := (lo G)) (n := 32) (off := 0) (c := 64) (hS.blk (i := 4) rfl) Q7m (by decide) (by decide)) (pvc (K0 (V := V) (n := 32) (off := 0) (c := 32) (hS.blk (i := 5) rfl) ap0 (by decide) (by decide)) (pvc (J5j hs hS.ext) pv0)))) (GA_ext hG hS.ext)) ?_
   refine TNp [1, 2, 3, 4, 5] [0, 1, 2, 3, 4] ?_
   refine TE (fun _ h => h.pick [1, 2, 3, 4, 5]) ?_
   refine MR 0 ?_ 
   refine TNp [1, 2, 3, 4, 5] [0, 1, 2, 3, 4] ?_
   refine TZ (fun _ h => h.pick [1, 2, 3, 4, 5]) fun W hS => ?_
   exact ⟨σ, X, rfl, hS.pick [1, 0, 5, 4, 3, 2]⟩
  refine MN (z := c4 0) (t := 153) ?_
  intro ω
  refine TNp [1, 2, 3, 4] [0, 1, 2, 3] ?_
  refine TE (fun _ h => h.pick [1, 2, 3, 4]) ?_
  refine MB (z := #[.slice (some ⟨D, 0, none⟩) 32 64, .slice (some ⟨J, 0, none⟩) 32 32, v]) (t := 22) (n := 3) (c := 3) ?_ (hr := fun W hS => J2k [.slice (some ⟨D, 0, none⟩) 32 64, .slice (some ⟨J, 0, none⟩) 32 32, v] rfl rfl (vsc (K6 (K0 (V := (lo G)) (n := 32) (off := 0) (c := 64) (hS.blk (i := 3) rfl) Q7m (by decide) (by decide))).1 (vsc (K6 (K0 (V := V) (n := 32) (off := 0) (c := 32) (hS.blk (i := 4) rfl) ap0 (by decide) (by decide))).1 (vsc (K6 (J5j hs hS.ext)).1 vs0))) Tryz.underlying113 (by kernel_rfl) (by kernel_rfl) rfl (by decide) (by decide))
  intro θ
  refine TNp [0, 2, 3, 4, 5] [1, 2, 3, 4] ?_
  refine TE (fun _ h => h.pick [0, 2, 3, 4, 5]) ?_
  refine MC (v := .agg (c4 U1)) (fun W hS => J4u (kn := kn) S.out [lb 32 (lo G), lb 32 V, L] (some ⟨θ, 0, none⟩) 3 (by simp only [List.flatten_cons, List.flatten_nil, List.append_nil, List.nil_append, List.append_assoc, List.cons_append]) (by first | omega | (simp only [List.length_append, List.length_cons, List.length_nil, J8]; omega)) (by simp) W (J1z (hS.blk (i := 0) rfl) (pvc (K0 (V := (lo G)) (n := 32) (off := 0) (c := 64) (hS.blk (i := 4) rfl) Q7m (by decide) (by decide)) (pvc (K0 (V := V) (n := 32) (off := 0) (c := 32) (hS.blk (i := 5) rfl) ap0 (by decide) (by decide)) (pvc (J5j hs hS.ext) pv0)))) (GA_ext hG hS.ext)) ?_
  refine TNp [0, 2, 3, 4, 5] [0, 1, 2, 3, 4] ?_
  refine TE (fun _ h => h.pick [0, 2, 3, 4, 5]) ?_
  refine MR 1 ?_ 
  refine TNp [0, 2, 3, 4, 5] [0, 1, 2, 3, 4] ?_
  refine TZ (fun _ h => h.pick [0, 2, 3, 4, 5]) fun W hS => ?_
  exact ⟨ω, θ, rfl, hS.pick [0, 1, 5, 4, 3, 2]⟩
 rintro _ W ⟨U, T, rfl, hS⟩
 go_upto_region 8 with fail
 refine RXn 10 [⟨10, 12, p4 0 0 0 0, 157⟩] hS ?_ (by simp only [List.forall_mem_cons]; exact ⟨⟨_, rfl, rfl, rfl, fun _ _ => by kernel_rfl⟩, fun _ h => by cases h⟩)
 clear hS
 refine MC (v := .agg (p4 x1 y2 z3 t4)) (fun W hS => c6 W (GA_ext hG hS.ext).1) ?_
 refine ML 4 ?_
 refine MC (v := .agg (J0 .u8 32 (Q3 (hi G)))) (fun W hS => J9l h1 W (GA_ext hG hS.ext).2.2.1) ?_
 refine MC (v := .agg (p4 x7 y8 z9 Ξ)) (fun W hS => D3 W (GA_ext hG hS.ext).1) ?_
 refine ML 5 ?_
 refine MC (v := .agg (p4 D4 Δ ψ D0)) (fun W hS => Ω W (GA_ext hG hS.ext).1) ?_
 refine ML 1 ?_
 refine MC (v := .agg (J0 .u8 32 (Q3 U1))) (fun W hS => J9l γ W (GA_ext hG hS.ext).2.2.1) ?_
 refine MC (v := .agg (p4 τ ν D5 ρ)) (fun W hS => ξ W (GA_ext hG hS.ext).1) ?_
 refine MC (v := .agg (p4 φ Γ D2 Θ)) (fun W hS => κ W (GA_ext hG hS.ext).1) ?_
 refine MZB fun D8 => ?_
 refine MR 0 ?_ 
 refine MZn fun W hS => ?_
 by_cases h3 : U2 = lo G
 ·
  go_upto_region 9 with fail
  refine RS hS ?_
  clear hS
  refine ML 0 ?_
  refine MC (v := .agg (J0 .u8 32 (Q3 U2))) (fun W hS => Q5w δ.rw Y.out W (GA_ext hG hS.ext).1) ?_
  refine MW ?_ (v := .slice (some ⟨D, 0, none⟩) 32 64)
  refine MW ?_ (v := .pointer (some ⟨D, 0, none⟩)) (hv := by intro W; first | rfl | (go_simp; done) | (go_simp; with_reducible rfl))
  refine Ml 4 Q7m ?_
  have M := Z0p U2 (lo G) ζ (Z7n _)
  rw [decide_eq_true h3] at M
  refine MW ?_ (v := .bool false) (hv := fun _ => J3f ((M) _) (by kernel_rfl) rfl rfl rfl)
  refine MZx fun W hS => ?_
  go_wp2
  rw [Y.out, S.out] at h3
  have h3' : enc (vP V L G) = lo G := h3
  rw [show vfy V L G = 0 by unfold vfy; rw [if_neg (Nat.not_le.2 h1), if_neg (by rw [h2]; decide), if_pos h3']]
  exact bodyPost_ret (v := .int .i64 0) (by simp only [results, Tryz.results61]; go_simp) rfl ⟨rfl, hS.ext⟩
 go_upto_region 9 with fail
 refine RS hS ?_
 clear hS
 refine ML 0 ?_
 refine MC (v := .agg (J0 .u8 32 (Q3 U2))) (fun W hS => Q5w δ.rw Y.out W (GA_ext hG hS.ext).1) ?_
 refine MW ?_ (v := .slice (some ⟨D, 0, none⟩) 32 64)
 refine MW ?_ (v := .pointer (some ⟨D, 0, none⟩)) (hv := by intro W; first | rfl | (go_simp; done) | (go_simp; with_reducible rfl))
 refine Ml 4 Q7m ?_
 have M := Z0p U2 (lo G) ζ (Z7n _)
 rw [decide_eq_false h3] at M
 refine MW ?_ (v := .bool true) (hv := fun _ => J3f ((M) _) (by kernel_rfl) rfl rfl rfl)
 refine MZx fun W hS => ?_
 go_wp2
 rw [Y.out, S.out] at h3
 have h3' : enc (vP V L G) ≠ lo G := h3
 rw [show vfy V L G = 16 by unfold vfy; rw [if_neg (Nat.not_le.2 h1), if_neg (by rw [h2]; decide), if_neg h3']]
 exact bodyPost_ret (v := .int .i64 16) (by simp only [results, Tryz.results61]; go_simp) rfl ⟨rfl, hS.ext⟩
theorem Z7o (hd : kn.d) (hb : kn.b) (hc : kn.c) {V G : Nat} (hV : V < 2 ^ 256) (hG2 : G < 2 ^ (256 + 256)) (v : Value) (L : List UInt8) (hL : L.length ≤ 1099511627776) (w : World) (hG : GA kn w) (hs : Sl w v L) :
  Calls Tryz.prog 61 #[.agg (J0 .u8 32 (Q3 V)), v, .agg (J0 .u8 64 (Q3 G))] w fun e w' => K7 (.int .i64 (vfy V L G : Int)) w w' e := by
 by_cases h1 : LL ≤ hi G
 ·
  rw [show vfy V L G = 16 by unfold vfy; rw [if_pos h1]]; exact Z7k hd hb hc hV hG2 v L hL h1 w hG hs
 cases h2 : dOk V
 ·
  rw [show vfy V L G = 15 by unfold vfy; rw [if_neg h1, if_pos h2]]; exact Z7l hd hb hc hV hG2 v L hL (Nat.not_le.1 h1) h2 w hG hs
 exact Z7m hd hb hc hV hG2 v L hL (Nat.not_le.1 h1) h2 w hG hs
end Go.Proofs.YtejkmhgkkibafaaGreatDoor.S8
