/- Proofs: what Check tells, the program's and the document's. Conditions: the tables hold their numbers; keys and values have 256 bits. The sum of the byte 2 (sha2), reckoned step by step from numbers that are written down. No conditions. Proofs: Prove; the laws' to, from, tame, leaves, proofs; the document's Same, Clash. Conditions: the tables hold their numbers; keys and values have 256 bits. The document's Same. Conditions: the sums are not too many. Proofs: the document's Same, Clash; the law's proofs. Conditions: the tables hold their numbers; keys and values have 256 bits. ProofBack. Conditions: the tables hold their numbers; keys and values have 256 bits. Calls that leave new facts about a type's blocks. No conditions. -/
import Derived.Test.YtejkmhgkkibafaaGreatDoorJ36
import Derived.Test.YtejkmhgkkibafaaGreatDoorSqJ
import Derived.Test.YtejkmhgkkibafaaGreatDoorJ6
import Derived.Test.YtejkmhgkkibafaaGreatDoorJ25
import Derived.Test.YtejkmhgkkibafaaGreatDoorJ5
set_option linter.unusedSimpArgs false
set_option linter.unusedVariables false
namespace Go.Proofs.YtejkmhgkkibafaaGreatDoor
section
set_option maxHeartbeats 3000000
set_option maxRecDepth 100000
open Go.RowKit
attribute [local irreducible] wpList J0k wpX
attribute [local irreducible] hs4 sE sL sN lb
abbrev chv (r : Nat × Bool × Nat) : Value := .tuple #[.agg (J0 .u8 32 (Q5 r.1)), .bool r.2.1, .int .i64 (r.2.2 : Int)]

theorem Z2y (a k n : Nat) (hn : n ≤ 256) (w : World) :
  Calls Tryz.prog 55 #[.agg (J0 .u8 32 (Q5 a)), .agg (J0 .u8 32 (Q5 k)), .int .i64 (n : Int)] w fun e w' => Ret (.bool (decide (n ≤ J06 (Q5 a) (Q5 k)))) w w' e := by
 have hS := SH.nil [] w
 go_enter Tryz.func55, Tryz.ntmps55
 go_upto_region 0 with fail
 refine RL hS ?_
 clear hS
 refine MN (z := J0 .u8 32 (Q5 a)) (t := 31) ?_
 intro J0c
 refine MN (z := J0 .u8 32 (Q5 k)) (t := 31) ?_
 intro Q06
 refine MW ?_ (v := .bool false)
 refine MZ fun W hS => ?_
 go_upto_region 1 with fail
 refine RL hS ?_
 clear hS
 refine ML 1 ?_
 refine ML 0 ?_
 refine MC (v := .int .i64 ((J06 (Q5 a) (Q5 k) : Nat) : Int)) (fun W hS => Q63 a k W) ?_
 refine MV ?_
 refine MW ?_ (v := .int .i64 (n : Int)) (hv := by intro W; go_simp; (try omega))
 refine MW ?_ (v := .bool (decide (n ≤ J06 (Q5 a) (Q5 k)))) (hv := by intro W; go_simp; (try simp only [decide_eq_decide]); (try omega))
 refine MW ?_ (v := .bool (decide (n ≤ J06 (Q5 a) (Q5 k))))
 refine MZ fun W hS => ?_
 go_wp2
 exact bodyPost_ret (v := .bool (decide (n ≤ J06 (Q5 a) (Q5 k)))) (by simp only [results, Tryz.results55]; go_simp) rfl ⟨rfl, hS.ext⟩
theorem Q7f {q : Prop} {ss : List Nat} {sv : Value} {th : Bool} {R k a x : Nat} (hR : R < 2 ^ 256) (hk : k < 2 ^ 256) (ha : a < 2 ^ 256) (hn : ss.length ≤ 1000) (w : World) (hG : GT q w) (hp : RR 32 w sv (ss.map J1e)) :
  Calls Tryz.prog 22 #[.agg (J0 .u8 32 (Q5 R)), .agg (J0 .u8 32 (Q5 k)), .agg (pfc sv th a x)] w fun e w' => Ret (chv (chk R k ss th a x)) w w' e := by
 obtain ⟨Ap, cp, rfl, hlcp, HRp⟩ := RR.opf hp
 have hS := SH.nil [] w
 go_enter Tryz.func22, Tryz.ntmps22
 go_upto_region 0 with fail
 refine RL hS ?_
 clear hS
 refine MN (z := J0 .u8 32 (Q5 R)) (t := 23) ?_
 intro J0c
 refine MN (z := J0 .u8 32 (Q5 k)) (t := 31) ?_
 intro Q06
 refine MN (z := pfc (.slice Ap ss.length cp) th a x) (t := 53) ?_
 intro Z7s
 refine MN (z := J0 .u8 32 (Q5 0)) (t := 23) ?_
 intro V5j
 refine MW ?_ (v := .bool false)
 refine MW ?_ (v := .int .i64 0)
 refine MZ fun W hS => ?_
 rcases Y7s ss.length (J06 (Q5 a) (Q5 k)) th with hb | ⟨hb, rfl⟩ | ⟨hb, rfl, hc⟩ | ⟨hb, rfl, hc⟩
 ·
  have _f := True.intro
  go_upto_region 1 with fail
  refine RL hS ?_
  clear hS
  refine MV ?_
  refine MG 1 ?_ (v := .slice Ap ss.length cp) (hj := J6p)
  refine MV ?_
  refine MW ?_ (v := .bool true)
  refine MW ?_ (v := .bool true)
  refine MS ?_
  refine MS ?_
  refine MS ?_
  refine MS ?_
  refine MS ?_
  refine MS ?_
  refine MS ?_
  refine MS ?_
  refine MS ?_
  refine MS ?_
  refine MS ?_
  refine MS ?_
  refine MS ?_
  refine MW ?_ (v := .bool true)
  refine MZ fun W hS => ?_
  go_upto_region 2 with fail
  refine RL hS ?_
  clear hS
  refine MW ?_ (v := .agg (J0 .u8 32 (Q5 0))) (hv := by intro W; kernel_rfl)
  refine MR 0 ?_ 
  refine MW ?_ (v := .bool false)
  refine MW ?_ (v := .int .i64 17)
  refine MZ fun W hS => ?_
  go_wp2
  exact bodyPost_ret (Q0k rfl rfl rfl rfl (hS.blk (i := 0) rfl) (by kernel_rfl) (by rw [J2]; kernel_rfl)) rfl ⟨by unfold chk; rw [if_pos (.inl hb)]; rfl, hS.ext⟩
 ·
  have _f := True.intro
  go_upto_region 1 with fail
  refine RL hS ?_
  clear hS
  refine MV ?_
  refine MG 1 ?_ (v := .slice Ap ss.length cp) (hj := J6p)
  refine MV ?_
  refine MW ?_ (v := .bool false)
  refine MW ?_ (v := .bool false)
  refine MV ?_
  refine MG 1 ?_ (v := .bool false) (hj := Q0l)
  refine MW ?_ (v := .bool false)
  refine MS ?_
  refine MS ?_
  refine MS ?_
  refine MS ?_
  refine MS ?_
  refine MS ?_
  refine MS ?_
  refine MS ?_
  refine MS ?_
  refine MW ?_ (v := .bool false)
  refine MW ?_ (v := .bool false)
  refine MZ fun W hS => ?_
  go_upto_region 3 with fail
  refine RL hS ?_
  clear hS
  refine ML 2 ?_
  refine ML 1 ?_ (hs := by rw [J01]; kernel_rfl)
  refine ME (V := fun p : Value × List Value => p.1) (fun W hS => Z0z hS (Z2x (k := k) (by omega) W (V6 hG hS.ext) (hp.ext hS.ext)) (fun _ => rfl)) ?_
  rintro ⟨lv, us⟩
  dsimp only
  refine MV ?_
  refine MZ fun W hS => ?_
  by_cases hs : hs4 (tT k ss 0 (tE false a x)) = R
  ·
   have _f := hs
   have hlt_ : (tT k ss 0 (tE false a x)).length ≤ 67 := Q45 k (Q44 ..) _ _
   obtain ⟨u, uh, ush⟩ := Q43 (hS.pp (i := 1) rfl) (J1i k (tE false a x) ss 0)
   obtain ⟨A1, c1, hv1, _, HR1⟩ := RR.opf (hS.row (i := 0) rfl).rr
   subst hv1
   obtain ⟨g1, o1, A10, _⟩ := HR1.out _ u uh
   have HA1 := Lib.hid A10
   clear A10 HR1
   have hul : us.length = ss.length + 1 := by have h_ := (hS.pp (i := 1) rfl).1; rw [J93] at h_; exact h_
   have Hul := Lib.hid hul
   clear hul
   go_upto_region 4 with fail
   refine RTh (.q 0 (.q 1 (.q 2 (.q 3 (.q 4 (.q 5 (.q 8 (.e 6 (.e 7 (.q 9 (.q 10 .z))))))))))) hS ?_
   clear hS
   refine TV ?_
   refine TV ?_
   refine TW ?_ (v := .int .i64 (us.length : Int)) (hv := by intro W; exact J6c rfl rfl Tryz.underlying113)
   refine TW ?_ (v := .int .i64 (ss.length : Int)) (hv := by intro W; have hul := Hul.out; go_simp; (try simp only [IntKind.wrap_i64]); omega)
   refine TW ?_ (v := .pointer (some ⟨g1, o1 + ss.length * 1, none⟩)) (hv := fun _ => V0 HA1.out (show ss.length < us.length by have h_ := Hul.out; omega) rfl rfl rfl Tryz.underlying113 (by kernel_rfl))
   refine TF (v := u) rfl (fun W hS => V2 rfl rfl ((RR.cellat (hS.row (i := 0) rfl).rr (by rw [List.getElem?_map, uh]; rfl) HA1.out) 0 _ rfl) (by kernel_rfl)) ?_
   refine TL 5 ?_
   refine TE (fun _ h => h) ?_
   refine MB (z := #[u]) (t := 22) (n := 1) (c := 1) ?_ (hr := fun W hS => J0h [u] rfl rfl (vsc (V3 ((hS.pp (i := 1) rfl).2 _ u _ uh (J1i k (tE false a x) ss 0))).1 vs0) Tryz.underlying113 (by kernel_rfl) (by kernel_rfl) rfl (by decide) (by decide))
   intro V22
   refine TNh (fun W hS => hS.pick [1, 2, 3, 4, 5, 6]) ?_
   refine TE (fun _ h => h) ?_
   obtain ⟨U1, hU1⟩ := exn (hs4 ((tT k ss 0 (tE false a x))))
   have HU1 := Lib.hid hU1
   clear hU1
   refine MC (v := .agg (J0 .u8 32 (Q5 U1))) (fun W hS => J3f HU1.out [tT k ss 0 (tE false a x)] (some ⟨V22, 0, none⟩) 1 (by simp only [List.flatten_cons, List.flatten_nil, List.append_nil, List.nil_append, List.append_assoc, List.cons_append]) (by first | omega | (simp only [List.length_append, List.length_cons, List.length_nil, Q2, dbl]; omega)) (by simp) W (J10 (hS.blk (i := 0) rfl) (pvc ((hS.pp (i := 2) rfl).2 _ u _ uh (J1i k (tE false a x) ss 0)) pv0)) (J1a hG.1 hS.ext)) ?_
   refine TNh (fun W hS => hS) ?_
   refine TW ?_ (v := .bool false) (hv := fun _ => J1y ((fun w => (J94 U1 R (by rw [HU1.out]; exact J3n _) hR w).trans (by rw [decide_eq_true (HU1.out.trans hs)])) _) (by kernel_rfl) rfl rfl rfl)
   refine TW ?_ (v := .bool false)
   refine TZ (fun _ h => h) fun W hS => ?_
   go_upto_region 6 with fail
   refine RL hS ?_
   clear hS
   refine MV ?_
   refine MG 4 ?_ (v := .bool false) (hj := Q0l)
   refine MW ?_ (v := .bool false)
   refine MS ?_
   refine MS ?_
   refine MS ?_
   refine MS ?_
   refine MS ?_
   refine MW ?_ (v := .bool false)
   refine MW ?_ (v := .bool false)
   refine MZ fun W hS => ?_
   go_upto_region 8 with fail
   refine RL hS ?_
   clear hS
   refine MW ?_ (v := .agg (J0 .u8 32 (Q5 0))) (hv := by intro W; kernel_rfl)
   refine MR 3 ?_ 
   refine MW ?_ (v := .bool false)
   refine MW ?_ (v := .int .i64 0)
   refine MZ fun W hS => ?_
   go_wp2
   exact bodyPost_ret (Q0k rfl rfl rfl rfl (hS.blk (i := 3) rfl) (by kernel_rfl) (by rw [J2]; kernel_rfl)) rfl ⟨by unfold chk; rw [if_neg (by rintro (h_ | ⟨h_, h2_⟩) <;> first | omega | cases h_), if_pos hs, if_neg (by rintro ⟨h_, _⟩; cases h_)]; rfl, hS.ext⟩
  have _f := hs
  have hlt_ : (tT k ss 0 (tE false a x)).length ≤ 67 := Q45 k (Q44 ..) _ _
  obtain ⟨u, uh, ush⟩ := Q43 (hS.pp (i := 1) rfl) (J1i k (tE false a x) ss 0)
  obtain ⟨A1, c1, hv1, _, HR1⟩ := RR.opf (hS.row (i := 0) rfl).rr
  subst hv1
  obtain ⟨g1, o1, A10, _⟩ := HR1.out _ u uh
  have HA1 := Lib.hid A10
  clear A10 HR1
  have hul : us.length = ss.length + 1 := by have h_ := (hS.pp (i := 1) rfl).1; rw [J93] at h_; exact h_
  have Hul := Lib.hid hul
  clear hul
  go_upto_region 4 with fail
  refine RTh (.q 0 (.q 1 (.q 2 (.q 3 (.q 4 (.q 5 (.q 8 (.e 6 (.e 7 (.q 9 (.q 10 .z))))))))))) hS ?_
  clear hS
  refine TV ?_
  refine TV ?_
  refine TW ?_ (v := .int .i64 (us.length : Int)) (hv := by intro W; exact J6c rfl rfl Tryz.underlying113)
  refine TW ?_ (v := .int .i64 (ss.length : Int)) (hv := by intro W; have hul := Hul.out; go_simp; (try simp only [IntKind.wrap_i64]); omega)
  refine TW ?_ (v := .pointer (some ⟨g1, o1 + ss.length * 1, none⟩)) (hv := fun _ => V0 HA1.out (show ss.length < us.length by have h_ := Hul.out; omega) rfl rfl rfl Tryz.underlying113 (by kernel_rfl))
  refine TF (v := u) rfl (fun W hS => V2 rfl rfl ((RR.cellat (hS.row (i := 0) rfl).rr (by rw [List.getElem?_map, uh]; rfl) HA1.out) 0 _ rfl) (by kernel_rfl)) ?_
  refine TL 5 ?_
  refine TE (fun _ h => h) ?_
  refine MB (z := #[u]) (t := 22) (n := 1) (c := 1) ?_ (hr := fun W hS => J0h [u] rfl rfl (vsc (V3 ((hS.pp (i := 1) rfl).2 _ u _ uh (J1i k (tE false a x) ss 0))).1 vs0) Tryz.underlying113 (by kernel_rfl) (by kernel_rfl) rfl (by decide) (by decide))
  intro V23
  refine TNh (fun W hS => hS.pick [1, 2, 3, 4, 5, 6]) ?_
  refine TE (fun _ h => h) ?_
  obtain ⟨U1, hU1⟩ := exn (hs4 ((tT k ss 0 (tE false a x))))
  have HU1 := Lib.hid hU1
  clear hU1
  refine MC (v := .agg (J0 .u8 32 (Q5 U1))) (fun W hS => J3f HU1.out [tT k ss 0 (tE false a x)] (some ⟨V23, 0, none⟩) 1 (by simp only [List.flatten_cons, List.flatten_nil, List.append_nil, List.nil_append, List.append_assoc, List.cons_append]) (by first | omega | (simp only [List.length_append, List.length_cons, List.length_nil, Q2, dbl]; omega)) (by simp) W (J10 (hS.blk (i := 0) rfl) (pvc ((hS.pp (i := 2) rfl).2 _ u _ uh (J1i k (tE false a x) ss 0)) pv0)) (J1a hG.1 hS.ext)) ?_
  refine TNh (fun W hS => hS) ?_
  refine TW ?_ (v := .bool true) (hv := fun _ => J1y ((fun w => (J94 U1 R (by rw [HU1.out]; exact J3n _) hR w).trans (by rw [decide_eq_false (fun h_ => hs (HU1.out.symm.trans h_))])) _) (by kernel_rfl) rfl rfl rfl)
  refine TW ?_ (v := .bool true)
  refine TZ (fun _ h => h) fun W hS => ?_
  go_upto_region 5 with fail
  refine RL hS ?_
  clear hS
  refine MW ?_ (v := .agg (J0 .u8 32 (Q5 0))) (hv := by intro W; kernel_rfl)
  refine MR 3 ?_ 
  refine MW ?_ (v := .bool false)
  refine MW ?_ (v := .int .i64 17)
  refine MZ fun W hS => ?_
  go_wp2
  exact bodyPost_ret (Q0k rfl rfl rfl rfl (hS.blk (i := 3) rfl) (by kernel_rfl) (by rw [J2]; kernel_rfl)) rfl ⟨by unfold chk; rw [if_neg (by rintro (h_ | ⟨h_, h2_⟩) <;> first | omega | cases h_), if_neg hs]; rfl, hS.ext⟩
 ·
  have _f := True.intro
  go_upto_region 1 with fail
  refine RL hS ?_
  clear hS
  refine MV ?_
  refine MG 1 ?_ (v := .slice Ap ss.length cp) (hj := J6p)
  refine MV ?_
  refine MW ?_ (v := .bool false)
  refine MW ?_ (v := .bool false)
  refine MV ?_
  refine MG 1 ?_ (v := .bool true) (hj := Q0l)
  refine MW ?_ (v := .bool true)
  refine MV ?_
  refine MV ?_
  refine Ml 1 Z4z ?_
  refine ML 2 ?_
  refine MV ?_
  refine MG 1 ?_ (v := .slice Ap ss.length cp) (hj := J6p)
  refine MV ?_
  refine MC (v := .bool false) (fun W hS => (by have h_ := Z2y a k ss.length hb W; rw [decide_eq_false (by omega)] at h_; exact h_)) ?_
  refine MW ?_ (v := .bool true)
  refine MW ?_ (v := .bool true)
  refine MW ?_ (v := .bool true)
  refine MZ fun W hS => ?_
  go_upto_region 2 with fail
  refine RL hS ?_
  clear hS
  refine MW ?_ (v := .agg (J0 .u8 32 (Q5 0))) (hv := by intro W; kernel_rfl)
  refine MR 0 ?_ 
  refine MW ?_ (v := .bool false)
  refine MW ?_ (v := .int .i64 17)
  refine MZ fun W hS => ?_
  go_wp2
  exact bodyPost_ret (Q0k rfl rfl rfl rfl (hS.blk (i := 0) rfl) (by kernel_rfl) (by rw [J2]; kernel_rfl)) rfl ⟨by unfold chk; rw [if_pos (.inr ⟨rfl, hc⟩)]; rfl, hS.ext⟩
 have _f := True.intro
 go_upto_region 1 with fail
 refine RL hS ?_
 clear hS
 refine MV ?_
 refine MG 1 ?_ (v := .slice Ap ss.length cp) (hj := J6p)
 refine MV ?_
 refine MW ?_ (v := .bool false)
 refine MW ?_ (v := .bool false)
 refine MV ?_
 refine MG 1 ?_ (v := .bool true) (hj := Q0l)
 refine MW ?_ (v := .bool true)
 refine MV ?_
 refine MV ?_
 refine Ml 1 Z4z ?_
 refine ML 2 ?_
 refine MV ?_
 refine MG 1 ?_ (v := .slice Ap ss.length cp) (hj := J6p)
 refine MV ?_
 refine MC (v := .bool true) (fun W hS => (by have h_ := Z2y a k ss.length hb W; rw [decide_eq_true hc] at h_; exact h_)) ?_
 refine MW ?_ (v := .bool false)
 refine MW ?_ (v := .bool false)
 refine MW ?_ (v := .bool false)
 refine MZ fun W hS => ?_
 go_upto_region 3 with fail
 refine RL hS ?_
 clear hS
 refine ML 2 ?_
 refine ML 1 ?_ (hs := by rw [J01]; kernel_rfl)
 refine ME (V := fun p : Value × List Value => p.1) (fun W hS => Z0z hS (Z2x (k := k) (by omega) W (V6 hG hS.ext) (hp.ext hS.ext)) (fun _ => rfl)) ?_
 rintro ⟨lv, us⟩
 dsimp only
 refine MV ?_
 refine MZ fun W hS => ?_
 by_cases hs : hs4 (tT k ss 0 (tE true a x)) = R
 ·
  have _f := hs
  have hlt_ : (tT k ss 0 (tE true a x)).length ≤ 67 := Q45 k (Q44 ..) _ _
  obtain ⟨u, uh, ush⟩ := Q43 (hS.pp (i := 1) rfl) (J1i k (tE true a x) ss 0)
  obtain ⟨A1, c1, hv1, _, HR1⟩ := RR.opf (hS.row (i := 0) rfl).rr
  subst hv1
  obtain ⟨g1, o1, A10, _⟩ := HR1.out _ u uh
  have HA1 := Lib.hid A10
  clear A10 HR1
  have hul : us.length = ss.length + 1 := by have h_ := (hS.pp (i := 1) rfl).1; rw [J93] at h_; exact h_
  have Hul := Lib.hid hul
  clear hul
  go_upto_region 4 with fail
  refine RTh (.q 0 (.q 1 (.q 2 (.q 3 (.q 4 (.q 5 (.q 8 (.e 6 (.e 7 (.q 9 (.q 10 .z))))))))))) hS ?_
  clear hS
  refine TV ?_
  refine TV ?_
  refine TW ?_ (v := .int .i64 (us.length : Int)) (hv := by intro W; exact J6c rfl rfl Tryz.underlying113)
  refine TW ?_ (v := .int .i64 (ss.length : Int)) (hv := by intro W; have hul := Hul.out; go_simp; (try simp only [IntKind.wrap_i64]); omega)
  refine TW ?_ (v := .pointer (some ⟨g1, o1 + ss.length * 1, none⟩)) (hv := fun _ => V0 HA1.out (show ss.length < us.length by have h_ := Hul.out; omega) rfl rfl rfl Tryz.underlying113 (by kernel_rfl))
  refine TF (v := u) rfl (fun W hS => V2 rfl rfl ((RR.cellat (hS.row (i := 0) rfl).rr (by rw [List.getElem?_map, uh]; rfl) HA1.out) 0 _ rfl) (by kernel_rfl)) ?_
  refine TL 5 ?_
  refine TE (fun _ h => h) ?_
  refine MB (z := #[u]) (t := 22) (n := 1) (c := 1) ?_ (hr := fun W hS => J0h [u] rfl rfl (vsc (V3 ((hS.pp (i := 1) rfl).2 _ u _ uh (J1i k (tE true a x) ss 0))).1 vs0) Tryz.underlying113 (by kernel_rfl) (by kernel_rfl) rfl (by decide) (by decide))
  intro V24
  refine TNh (fun W hS => hS.pick [1, 2, 3, 4, 5, 6]) ?_
  refine TE (fun _ h => h) ?_
  obtain ⟨U1, hU1⟩ := exn (hs4 ((tT k ss 0 (tE true a x))))
  have HU1 := Lib.hid hU1
  clear hU1
  refine MC (v := .agg (J0 .u8 32 (Q5 U1))) (fun W hS => J3f HU1.out [tT k ss 0 (tE true a x)] (some ⟨V24, 0, none⟩) 1 (by simp only [List.flatten_cons, List.flatten_nil, List.append_nil, List.nil_append, List.append_assoc, List.cons_append]) (by first | omega | (simp only [List.length_append, List.length_cons, List.length_nil, Q2, dbl]; omega)) (by simp) W (J10 (hS.blk (i := 0) rfl) (pvc ((hS.pp (i := 2) rfl).2 _ u _ uh (J1i k (tE true a x) ss 0)) pv0)) (J1a hG.1 hS.ext)) ?_
  refine TNh (fun W hS => hS) ?_
  refine TW ?_ (v := .bool false) (hv := fun _ => J1y ((fun w => (J94 U1 R (by rw [HU1.out]; exact J3n _) hR w).trans (by rw [decide_eq_true (HU1.out.trans hs)])) _) (by kernel_rfl) rfl rfl rfl)
  refine TW ?_ (v := .bool false)
  refine TZ (fun _ h => h) fun W hS => ?_
  by_cases hak : a = k
  ·
   have _f := hak
   go_upto_region 6 with fail
   refine RL hS ?_
   clear hS
   refine MV ?_
   refine MG 4 ?_ (v := .bool true) (hj := Q0l)
   refine MW ?_ (v := .bool true)
   refine MV ?_
   refine MV ?_
   refine Ml 4 Z4z ?_
   refine ML 5 ?_
   refine MW ?_ (v := .bool true) (hv := fun _ => J3q ((fun w => (Z2z a k ha hk w).trans (by rw [decide_eq_true hak])) _) (by kernel_rfl) rfl rfl rfl)
   refine MW ?_ (v := .bool true)
   refine MW ?_ (v := .bool true)
   refine MZ fun W hS => ?_
   go_upto_region 7 with fail
   refine RL hS ?_
   clear hS
   refine MV ?_
   refine MV ?_
   refine Ml 4 Y7o ?_
   refine MR 3 ?_ 
   refine MW ?_ (v := .bool true)
   refine MW ?_ (v := .int .i64 0)
   refine MZ fun W hS => ?_
   go_wp2
   exact bodyPost_ret (Q0k rfl rfl rfl rfl (hS.blk (i := 3) rfl) (by kernel_rfl) (by rw [J2]; kernel_rfl)) rfl ⟨by unfold chk; rw [if_neg (by rintro (h_ | ⟨h_, h2_⟩) <;> first | omega | cases h_), if_pos hs, if_pos ⟨rfl, hak⟩]; rfl, hS.ext⟩
  have _f := hak
  go_upto_region 6 with fail
  refine RL hS ?_
  clear hS
  refine MV ?_
  refine MG 4 ?_ (v := .bool true) (hj := Q0l)
  refine MW ?_ (v := .bool true)
  refine MV ?_
  refine MV ?_
  refine Ml 4 Z4z ?_
  refine ML 5 ?_
  refine MW ?_ (v := .bool false) (hv := fun _ => J3q ((fun w => (Z2z a k ha hk w).trans (by rw [decide_eq_false hak])) _) (by kernel_rfl) rfl rfl rfl)
  refine MW ?_ (v := .bool false)
  refine MW ?_ (v := .bool false)
  refine MZ fun W hS => ?_
  go_upto_region 8 with fail
  refine RL hS ?_
  clear hS
  refine MW ?_ (v := .agg (J0 .u8 32 (Q5 0))) (hv := by intro W; kernel_rfl)
  refine MR 3 ?_ 
  refine MW ?_ (v := .bool false)
  refine MW ?_ (v := .int .i64 0)
  refine MZ fun W hS => ?_
  go_wp2
  exact bodyPost_ret (Q0k rfl rfl rfl rfl (hS.blk (i := 3) rfl) (by kernel_rfl) (by rw [J2]; kernel_rfl)) rfl ⟨by unfold chk; rw [if_neg (by rintro (h_ | ⟨h_, h2_⟩) <;> first | omega | cases h_), if_pos hs, if_neg (fun h_ => hak h_.2)]; rfl, hS.ext⟩
 have _f := hs
 have hlt_ : (tT k ss 0 (tE true a x)).length ≤ 67 := Q45 k (Q44 ..) _ _
 obtain ⟨u, uh, ush⟩ := Q43 (hS.pp (i := 1) rfl) (J1i k (tE true a x) ss 0)
 obtain ⟨A1, c1, hv1, _, HR1⟩ := RR.opf (hS.row (i := 0) rfl).rr
 subst hv1
 obtain ⟨g1, o1, A10, _⟩ := HR1.out _ u uh
 have HA1 := Lib.hid A10
 clear A10 HR1
 have hul : us.length = ss.length + 1 := by have h_ := (hS.pp (i := 1) rfl).1; rw [J93] at h_; exact h_
 have Hul := Lib.hid hul
 clear hul
 go_upto_region 4 with fail
 refine RTh (.q 0 (.q 1 (.q 2 (.q 3 (.q 4 (.q 5 (.q 8 (.e 6 (.e 7 (.q 9 (.q 10 .z))))))))))) hS ?_
 clear hS
 refine TV ?_
 refine TV ?_
 refine TW ?_ (v := .int .i64 (us.length : Int)) (hv := by intro W; exact J6c rfl rfl Tryz.underlying113)
 refine TW ?_ (v := .int .i64 (ss.length : Int)) (hv := by intro W; have hul := Hul.out; go_simp; (try simp only [IntKind.wrap_i64]); omega)
 refine TW ?_ (v := .pointer (some ⟨g1, o1 + ss.length * 1, none⟩)) (hv := fun _ => V0 HA1.out (show ss.length < us.length by have h_ := Hul.out; omega) rfl rfl rfl Tryz.underlying113 (by kernel_rfl))
 refine TF (v := u) rfl (fun W hS => V2 rfl rfl ((RR.cellat (hS.row (i := 0) rfl).rr (by rw [List.getElem?_map, uh]; rfl) HA1.out) 0 _ rfl) (by kernel_rfl)) ?_
 refine TL 5 ?_
 refine TE (fun _ h => h) ?_
 refine MB (z := #[u]) (t := 22) (n := 1) (c := 1) ?_ (hr := fun W hS => J0h [u] rfl rfl (vsc (V3 ((hS.pp (i := 1) rfl).2 _ u _ uh (J1i k (tE true a x) ss 0))).1 vs0) Tryz.underlying113 (by kernel_rfl) (by kernel_rfl) rfl (by decide) (by decide))
 intro V25
 refine TNh (fun W hS => hS.pick [1, 2, 3, 4, 5, 6]) ?_
 refine TE (fun _ h => h) ?_
 obtain ⟨U1, hU1⟩ := exn (hs4 ((tT k ss 0 (tE true a x))))
 have HU1 := Lib.hid hU1
 clear hU1
 refine MC (v := .agg (J0 .u8 32 (Q5 U1))) (fun W hS => J3f HU1.out [tT k ss 0 (tE true a x)] (some ⟨V25, 0, none⟩) 1 (by simp only [List.flatten_cons, List.flatten_nil, List.append_nil, List.nil_append, List.append_assoc, List.cons_append]) (by first | omega | (simp only [List.length_append, List.length_cons, List.length_nil, Q2, dbl]; omega)) (by simp) W (J10 (hS.blk (i := 0) rfl) (pvc ((hS.pp (i := 2) rfl).2 _ u _ uh (J1i k (tE true a x) ss 0)) pv0)) (J1a hG.1 hS.ext)) ?_
 refine TNh (fun W hS => hS) ?_
 refine TW ?_ (v := .bool true) (hv := fun _ => J1y ((fun w => (J94 U1 R (by rw [HU1.out]; exact J3n _) hR w).trans (by rw [decide_eq_false (fun h_ => hs (HU1.out.symm.trans h_))])) _) (by kernel_rfl) rfl rfl rfl)
 refine TW ?_ (v := .bool true)
 refine TZ (fun _ h => h) fun W hS => ?_
 go_upto_region 5 with fail
 refine RL hS ?_
 clear hS
 refine MW ?_ (v := .agg (J0 .u8 32 (Q5 0))) (hv := by intro W; kernel_rfl)
 refine MR 3 ?_ 
 refine MW ?_ (v := .bool false)
 refine MW ?_ (v := .int .i64 17)
 refine MZ fun W hS => ?_
 go_wp2
 exact bodyPost_ret (Q0k rfl rfl rfl rfl (hS.blk (i := 3) rfl) (by kernel_rfl) (by rw [J2]; kernel_rfl)) rfl ⟨by unfold chk; rw [if_neg (by rintro (h_ | ⟨h_, h2_⟩) <;> first | omega | cases h_), if_neg hs]; rfl, hS.ext⟩
end

section
open Go.RowKit
end

section
set_option maxHeartbeats 3000000
set_option maxRecDepth 100000
open Go.RowKit
attribute [local irreducible] wpList J0k wpX
attribute [local irreducible] hs4 sE sL sN lb
def Y7t (ss : List Nat) (th : Bool) (a x : Nat) (w w' : World) (e : Ending) : Prop := ∃ v, e = .returned (.agg (pfc v th a x)) ∧ SH [] w w' [.r 23 32 v (ss.map J1e)]
theorem Y57 {f : FuncId} {args : Array Value} {F : List Nat} {w W : World} {H : List As} {ss : List Nat} {th : Bool} {a x : Nat} (hS : SH F w W H) (hc : Calls Tryz.prog f args W fun e W' => Y7t ss th a x W W' e) (ht : H.all (SH.tyOk (.r 23 32 undef [])) = true) :
  Calls Tryz.prog f args W fun e W' => ∃ v, e = .returned (.agg (pfc v th a x)) ∧ SH F w W' (.r 23 32 v (ss.map J1e) :: H) := J33 hS hc (fun _ => ⟨rfl, ht⟩)

theorem Y2h {q : Prop} {T : TR} {u : Value} {k : Nat} (hzT : tsz T ≤ 1099511627775) (w : World) (hG : GT q w) (h : TA w T u) :
  Calls Tryz.prog 54 #[u, .agg (J0 .u8 32 (Q5 k))] w fun e w' => Y7t (bsd T k 0) (J2i (J0g T k 0)).2.2 (J2i (J0g T k 0)).1 (J2i (J0g T k 0)).2.1 w w' e := by
 have hS := SH.nil [] w
 go_enter Tryz.func54, Tryz.ntmps54
 go_upto_region 0 with fail
 refine RL hS ?_
 clear hS
 refine MN (z := J0 .u8 32 (Q5 k)) (t := 31) ?_
 intro J0c
 refine MN (z := pfc (.slice none 0 0) false 0 0) (t := 53) ?_
 intro Q06
 refine MZ fun W hS => ?_
 go_upto_region 1 with fail
 refine RL hS ?_
 clear hS
 refine MV ?_
 refine ML 1 ?_
 refine ME (V := fun v => .tuple #[v, .agg (lf (J2i (J0g T k 0)).1 (J2i (J0g T k 0)).2.1), .bool (J2i (J0g T k 0)).2.2]) (fun W hS => J33 hS (Z7t (k := k) hzT W (V6 hG hS.ext) (TA.ext h hS.ext)) (fun _ => ⟨rfl, rfl⟩)) ?_
 intro so
 refine J3r (fun W hS => Row.form (ls := (bsd T k 0)) (f := J1e) (hS.row (i := 0) rfl)) ?_
 rintro ⟨A_3, c_3, rfl⟩
 refine MV ?_
 refine MV ?_
 refine MV ?_
 refine MW ?_ (v := .bool (J2i (J0g T k 0)).2.2)
 refine MN (z := lf 0 0) (t := 51) ?_
 intro V5j
 refine MV ?_
 refine MR 0 ?_ (hz := by rw [Q8]; kernel_rfl) (hs := by first | rw [Q8, Q8] | rw [Q8] | kernel_rfl) (h1 := J34)
 refine MW ?_ (v := .bool (J2i (J0g T k 0)).2.2)
 refine MZ fun W hS => ?_
 go_upto_region 2 with fail
 refine RL hS ?_
 clear hS
 refine MV ?_
 refine MW ?_ (v := .bool (J2i (J0g T k 0)).2.2)
 refine ML 0 ?_ (hs := by rw [Q8]; kernel_rfl)
 refine MW ?_ (v := .agg (pfc (.slice A_3 (bsd T k 0).length c_3) (J2i (J0g T k 0)).2.2 ((J2i (J0g T k 0)).1) ((J2i (J0g T k 0)).2.1))) (hv := by intro W; first | rfl | kernel_rfl)
 refine MR 2 ?_ (hz := by rw [J01]; kernel_rfl) (hs := by first | rw [J01, J01] | rw [J01] | kernel_rfl) (h1 := (Q48 rfl))
 refine MZ fun W hS => ?_
 go_wp2
 exact bodyPost_ret (Y0 rfl rfl (hS.blk (i := 2) rfl) (by kernel_rfl) (by rw [J01]; kernel_rfl)) rfl ⟨_, rfl, hS.pick [1]⟩
end

section
set_option maxHeartbeats 3000000
set_option maxRecDepth 100000
open Go.RowKit
attribute [local irreducible] wpList J0k wpX
attribute [local irreducible] lb
theorem Q7g {ss : List Nat} {sv tv : Value} {th : Bool} {a x b z : Nat} (hn : ss.length ≤ 1000000) (hend : th = true → a = b ∧ x = z) (ha : a < 2 ^ 256) (hx : x < 2 ^ 256) (w : World) (hp : RR 32 w sv (ss.map J1e)) (hr : RR 32 w tv (ss.map J1e)) :
  Calls Tryz.prog 25 #[.agg (pfc sv th a x), .agg (pfc tv th b z)] w fun e w' => Ret (.bool true) w w' e := by
 obtain ⟨Ap, cp, rfl, hlcp, HRp⟩ := RR.opf hp
 obtain ⟨Ar, cr, rfl, hlcr, HRr⟩ := RR.opf hr
 have hS := SH.nil [] w
 go_enter Tryz.func25, Tryz.ntmps25
 go_upto_region 0 with fail
 refine RL hS ?_
 clear hS
 refine MN (z := pfc (.slice Ap ss.length cp) th a x) (t := 66) ?_
 intro J0a
 refine MN (z := pfc (.slice Ar ss.length cr) th b z) (t := 66) ?_
 intro J1z
 refine MW ?_ (v := .bool false)
 refine MZ fun W hS => ?_
 rcases th with _ | _
 ·
  have _f := True.intro
  go_upto_region 1 with fail
  refine RL hS ?_
  clear hS
  refine MV ?_
  refine MG 1 ?_ (v := .slice Ap ss.length cp) (hj := J6p)
  refine MV ?_
  refine MV ?_
  refine MG 0 ?_ (v := .slice Ar ss.length cr) (hj := J6p)
  refine MV ?_
  refine MW ?_ (v := .bool false)
  refine MW ?_ (v := .bool false)
  refine MV ?_
  refine MG 1 ?_ (v := .bool false) (hj := Q0l)
  refine MV ?_
  refine MG 0 ?_ (v := .bool false) (hj := Q0l)
  refine MW ?_ (v := .bool false)
  refine MW ?_ (v := .bool false)
  refine MW ?_ (v := .bool false)
  refine MV ?_
  refine MG 1 ?_ (v := .bool false) (hj := Q0l)
  refine MW ?_ (v := .bool false)
  refine MS ?_
  refine MS ?_
  refine MS ?_
  refine MS ?_
  refine MS ?_
  refine MW ?_ (v := .bool false)
  refine MW ?_ (v := .bool false)
  refine MZ fun W hS => ?_
  go_wp2_with fail
  go_loopw [5] (fun ii wr => ∃ (i : Nat), (i ≤ ss.length) ∧ (ii = .int .i64 (i : Int)) ∧ SH [] w wr [.b J0a (pfc (.slice Ap ss.length cp) false a x) 66, .b J1z (pfc (.slice Ar ss.length cr) false b z) 66])
   (fun ii _ => ss.length - (intOf ii).toNat)
  case atStart => exact ⟨0, Nat.zero_le _, rfl, (hS.pick [1, 0])⟩
  clear hS
  case round =>
   obtain ⟨i, hi, rfl, hS⟩ := hrel
   by_cases hlt : i < ss.length
   ·
    have _f := hlt
    obtain ⟨y, yh⟩ : ∃ x, ss[i]? = some x := ⟨_, List.getElem?_eq_getElem hlt⟩
    obtain ⟨gp, op, A0p, c0p⟩ := HRp.out i y yh
    have HAp := Lib.hid A0p
    clear A0p
    obtain ⟨gr, or, A0r, c0r⟩ := HRr.out i y yh
    have HAr := Lib.hid A0r
    clear A0r
    go_upto_region 4 with fail
    refine RL hS ?_
    clear hS
    refine MV ?_
    refine MV ?_
    refine MG 0 ?_ (v := .slice Ap ss.length cp) (hj := J6p)
    refine MV ?_
    refine MW ?_ (v := .bool true)
    refine MZ fun W hS => ?_
    go_upto_region 6 with fail
    refine RTh (.q 0 (.q 1 (.q 2 (.q 3 (.q 4 (.q 5 (.q 6 (.q 7 (.q 8 (.q 9 (.q 10 .z))))))))))) hS ?_
    clear hS
    refine TV ?_
    refine TG 0 ?_ (v := .slice Ap ss.length cp) (hj := J6p)
    refine TV ?_
    refine TW ?_ (v := .pointer (some ⟨gp, op + i * 32, none⟩)) (hv := fun _ => V0 HAp.out hlt rfl rfl rfl Tryz.underlying49 (by kernel_rfl))
    refine TF (v := .agg (J0 .u8 32 (Q5 y))) rfl (fun W hS => K4 rfl rfl (fun i_ v hv => K5 (c0p i_ v (by simpa using hv)) hS.ext) (by kernel_rfl) (by rw [J2]; kernel_rfl)) ?_
    refine TV ?_
    refine TG 1 ?_ (v := .slice Ar ss.length cr) (hj := J6p)
    refine TV ?_
    refine TW ?_ (v := .pointer (some ⟨gr, or + i * 32, none⟩)) (hv := fun _ => V0 HAr.out hlt rfl rfl rfl Tryz.underlying49 (by kernel_rfl))
    refine TF (v := .agg (J0 .u8 32 (Q5 y))) rfl (fun W hS => K4 rfl rfl (fun i_ v hv => K5 (c0r i_ v (by simpa using hv)) hS.ext) (by kernel_rfl) (by rw [J2]; kernel_rfl)) ?_
    refine TW ?_ (v := .bool false) (hv := fun _ => J1y ((fun w => Q9e rfl w) _) (by kernel_rfl) rfl rfl rfl)
    refine TZ (fun _ h => h) fun W hS => ?_
    go_wp2
    go_roundw
    case rel => exact ⟨i + 1, by omega, by go_num, hS⟩
    case measure => simp [intOf]; omega
   have _f := hlt
   go_upto_region 4 with fail
   refine RL hS ?_
   clear hS
   refine MV ?_
   refine MV ?_
   refine MG 0 ?_ (v := .slice Ap ss.length cp) (hj := J6p)
   refine MV ?_
   refine MW ?_ (v := .bool false)
   refine MZ fun W hS => ?_
   go_wp2
   exact bodyPost_ret (v := .bool true) (by simp only [results, Tryz.results25]; go_simp) rfl ⟨rfl, hS.ext⟩
 have _f := True.intro
 obtain ⟨rfl, rfl⟩ := hend rfl
 go_upto_region 1 with fail
 refine RL hS ?_
 clear hS
 refine MV ?_
 refine MG 1 ?_ (v := .slice Ap ss.length cp) (hj := J6p)
 refine MV ?_
 refine MV ?_
 refine MG 0 ?_ (v := .slice Ar ss.length cr) (hj := J6p)
 refine MV ?_
 refine MW ?_ (v := .bool false)
 refine MW ?_ (v := .bool false)
 refine MV ?_
 refine MG 1 ?_ (v := .bool true) (hj := Q0l)
 refine MV ?_
 refine MG 0 ?_ (v := .bool true) (hj := Q0l)
 refine MW ?_ (v := .bool false)
 refine MW ?_ (v := .bool false)
 refine MW ?_ (v := .bool false)
 refine MV ?_
 refine MG 1 ?_ (v := .bool true) (hj := Q0l)
 refine MW ?_ (v := .bool true)
 refine MV ?_
 refine Ml 1 Y2f ?_ (hz := by first | kernel_rfl | (rw [Q8]; kernel_rfl))
 refine MV ?_
 refine Ml 0 Y2f ?_ (hz := by first | kernel_rfl | (rw [Q8]; kernel_rfl))
 refine MW ?_ (v := .bool false) (hv := fun _ => J1y ((fun w => (V5g (a, x) (a, x) ⟨ha, hx⟩ ⟨ha, hx⟩ w).trans (by rw [decide_eq_true rfl])) _) (by kernel_rfl) rfl rfl rfl)
 refine MW ?_ (v := .bool false)
 refine MW ?_ (v := .bool false)
 refine MZ fun W hS => ?_
 go_wp2_with fail
 go_loopw [5] (fun ii wr => ∃ (i : Nat), (i ≤ ss.length) ∧ (ii = .int .i64 (i : Int)) ∧ SH [] w wr [.b J0a (pfc (.slice Ap ss.length cp) true a x) 66, .b J1z (pfc (.slice Ar ss.length cr) true a x) 66])
  (fun ii _ => ss.length - (intOf ii).toNat)
 case atStart => exact ⟨0, Nat.zero_le _, rfl, (hS.pick [1, 0])⟩
 clear hS
 case round =>
  obtain ⟨i, hi, rfl, hS⟩ := hrel
  by_cases hlt : i < ss.length
  ·
   have _f := hlt
   obtain ⟨y, yh⟩ : ∃ x, ss[i]? = some x := ⟨_, List.getElem?_eq_getElem hlt⟩
   obtain ⟨gp, op, A0p, c0p⟩ := HRp.out i y yh
   have HAp := Lib.hid A0p
   clear A0p
   obtain ⟨gr, or, A0r, c0r⟩ := HRr.out i y yh
   have HAr := Lib.hid A0r
   clear A0r
   go_upto_region 4 with fail
   refine RL hS ?_
   clear hS
   refine MV ?_
   refine MV ?_
   refine MG 0 ?_ (v := .slice Ap ss.length cp) (hj := J6p)
   refine MV ?_
   refine MW ?_ (v := .bool true)
   refine MZ fun W hS => ?_
   go_upto_region 6 with fail
   refine RTh (.q 0 (.q 1 (.q 2 (.q 3 (.q 4 (.q 5 (.q 6 (.q 7 (.q 8 (.q 9 (.q 10 .z))))))))))) hS ?_
   clear hS
   refine TV ?_
   refine TG 0 ?_ (v := .slice Ap ss.length cp) (hj := J6p)
   refine TV ?_
   refine TW ?_ (v := .pointer (some ⟨gp, op + i * 32, none⟩)) (hv := fun _ => V0 HAp.out hlt rfl rfl rfl Tryz.underlying49 (by kernel_rfl))
   refine TF (v := .agg (J0 .u8 32 (Q5 y))) rfl (fun W hS => K4 rfl rfl (fun i_ v hv => K5 (c0p i_ v (by simpa using hv)) hS.ext) (by kernel_rfl) (by rw [J2]; kernel_rfl)) ?_
   refine TV ?_
   refine TG 1 ?_ (v := .slice Ar ss.length cr) (hj := J6p)
   refine TV ?_
   refine TW ?_ (v := .pointer (some ⟨gr, or + i * 32, none⟩)) (hv := fun _ => V0 HAr.out hlt rfl rfl rfl Tryz.underlying49 (by kernel_rfl))
   refine TF (v := .agg (J0 .u8 32 (Q5 y))) rfl (fun W hS => K4 rfl rfl (fun i_ v hv => K5 (c0r i_ v (by simpa using hv)) hS.ext) (by kernel_rfl) (by rw [J2]; kernel_rfl)) ?_
   refine TW ?_ (v := .bool false) (hv := fun _ => J1y ((fun w => Q9e rfl w) _) (by kernel_rfl) rfl rfl rfl)
   refine TZ (fun _ h => h) fun W hS => ?_
   go_wp2
   go_roundw
   case rel => exact ⟨i + 1, by omega, by go_num, hS⟩
   case measure => simp [intOf]; omega
  have _f := hlt
  go_upto_region 4 with fail
  refine RL hS ?_
  clear hS
  refine MV ?_
  refine MV ?_
  refine MG 0 ?_ (v := .slice Ap ss.length cp) (hj := J6p)
  refine MV ?_
  refine MW ?_ (v := .bool false)
  refine MZ fun W hS => ?_
  go_wp2
  exact bodyPost_ret (v := .bool true) (by simp only [results, Tryz.results25]; go_simp) rfl ⟨rfl, hS.ext⟩
end

section
open Go.RowKit
attribute [local irreducible] wpList J0k wpX
attribute [local irreducible] hs4 sE sL sN lb
end

section
open Go.RowKit
attribute [local irreducible] wpList J0k wpX
theorem Y7u {L : List Lf} {k : Nat} (h : J2x L) : (J2i (J0g (ofT L) k 0)).1 < 2 ^ 256 ∧ (J2i (J0g (ofT L) k 0)).2.1 < 2 ^ 256 := by
 rcases J9t (ofT L) k 0 with e | ⟨a, x, e⟩
 ·
  rw [e]; exact ⟨by decide, by decide⟩
 have e2 := e
 rw [Q3b h] at e2
 obtain ⟨h1, h2⟩ := J6d h
 rw [e]
 exact h1 _ (J9s 256 0 rfl h2 (Q47 _) e2).1
theorem Z7u (T : TR) : rs T < 2 ^ 256 := by
 cases T with
 | nil => exact J3n _
 | leaf a x => exact J3n _
 | node e l r => exact J3n _
attribute [local irreducible] hs4 sE sL sN lb

end

section
open Go.RowKit
namespace SH
variable {F : List Nat} {w W W' : World} {H H' L L' R : List As} {x y : As} {i j : Nat}
def okT (L R : List As) : List As → Prop
  | [] => True
  | y :: l => (y ∈ L ∨ (y.mv = true ∧ R.all (tyOk y) = true) ∨ ∃ T K, y = .t T K ∧ R.all (fun z => tyOk z y) = true) ∧ okT L R l
theorem Q8r : ∀ {l : List As}, okT L R l → ∀ y ∈ l, y ∈ L ∨ (y.mv = true ∧ R.all (tyOk y) = true) ∨ ∃ T K, y = .t T K ∧ R.all (fun z => tyOk z y) = true
  | _ :: _, h, y, hy => by
    rcases List.mem_cons.1 hy with rfl | hy
    · exact h.1
    · exact Q8r h.2 y hy
theorem frameT (h : SH F w W (L ++ R)) (h' : SH (feet L) W W' L') (ok : okT L R L') : SH F w W' (L' ++ R) := by
  have hp := List.pairwise_append.1 h.ap
  have hR : ∀ z ∈ R, z.holds W := fun z hz => h.all z (by simp [hz])
  have hL : ∀ x ∈ L, x.holds W := fun x hx => h.all x (by simp [hx])
  -- a block of what may turn is no block of R
  have hf : ∀ k, k ∈ feet L → ∀ z ∈ R, (∀ T K, z ≠ .t T K) → k ∉ z.foot := fun k hk z hz hT => by
    obtain ⟨x, hx, hm, hk⟩ := mem_feet.1 hk
    have := (hp.2.2 x hx z hz).1 hm
    cases z with
    | t T K => exact absurd rfl (hT T K)
    | _ => exact this k hk
  have hl : ∀ y ∈ L', y.mv = true → ∀ z ∈ R, (∀ T K, z ≠ .t T K) → ∀ k ∈ y.foot, k ∉ z.foot := fun y hy hm z hz hT k hk hk' =>
    hf k (h'.old y hy hm k hk (As.lt (hR z hz) k hk')) z hz hT hk'
  refine ⟨h.off.step h'.off fun k hk hlt => ?_, fun z hz => ?_, List.pairwise_append.2 ⟨h'.ap, hp.2.1, fun y hy z hz => ⟨fun hm => ?_, fun hm => ?_⟩⟩, fun z hz hm k hk hlt => ?_⟩
  · obtain ⟨x, hx, hm, hk⟩ := mem_feet.1 hk
    exact h.old x (by simp [hx]) hm k hk hlt
  · rcases List.mem_append.1 hz with hz | hz
    · exact h'.all z hz
    refine As.keep h'.off (hR z hz) (fun k hk hkF => ?_) fun T K e k hkF hlt ht => ?_
    · cases z with
      | t T K => cases hk
      | _ => exact hf k hkF _ hz (fun _ _ e => by cases e) hk
    obtain ⟨x, hx, hm, hk⟩ := mem_feet.1 hkF
    have h1 := (hp.2.2 x hx z hz).1 hm
    subst e
    exact h1 ((As.tyOf (hL x hx) hm k hk).symm.trans ht)
  · rcases Q8r ok y hy with hy' | ⟨_, hty⟩ | ⟨T, K, e, _⟩
    · exact (hp.2.2 y hy' z hz).1 hm
    · cases z with
      | t T K => have := List.all_eq_true.1 hty _ hz; simpa [tyOk, hm] using this
      | _ => exact hl y hy hm _ hz (fun _ _ e => by cases e)
    subst e; cases hm
  · rcases Q8r ok y hy with hy' | ⟨hym, _⟩ | ⟨T, K, e, hty⟩
    · exact (hp.2.2 y hy' z hz).2 hm
    · cases y with
      | t T K => cases hym
      | _ => exact fun k hk hk' => hl _ hy hym z hz (fun T K e => by subst e; cases hm) k hk' hk
    subst e; have := List.all_eq_true.1 hty _ hz; simpa [tyOk, hm] using this
  rcases List.mem_append.1 hz with hz | hz
  · by_cases hlt' : k < W.heap.size
    · obtain ⟨x, hx, hm', hk'⟩ := mem_feet.1 (h'.old z hz hm k hk hlt')
      exact h.old x (by simp [hx]) hm' k hk' hlt
    have := h.size; omega
  exact h.old z (by simp [hz]) hm k hk hlt
end SH
section
variable {P : Program} {f : FuncId} {args : Array Value} {F : List Nat} {w W : World} {H L R : List As}
theorem Y6s {α : Type} (I J : List Nat) {V : α → Value} {L' H' : α → List As} (hS : SH F w W H) (hc : SH (SH.feet L) W W L → Calls P f args W fun e W' => ∃ x, e = .returned (V x) ∧ SH (SH.feet L) W W' (L' x)) (ok : ∀ x, SH.okT L R (L' x)) (hI : pk H I = L := by exact rfl) (hJ : pk H J = R := by exact rfl) (hn : (I ++ J).Nodup := by decide) (hH : ∀ x, L' x ++ R = H' x := by exact fun _ => rfl) : Calls P f args W fun e W' => ∃ x, e = .returned (V x) ∧ SH F w W' (H' x) := by
  subst hI hJ
  have h : SH F w W (pk H I ++ pk H J) := hS.pick (I ++ J) (by
    exact Q79 H I J) hn
  exact (hc h.here).mono fun e W' ⟨x, h1, h2⟩ => ⟨x, h1, by rw [← hH x]; exact h.frameT h2 (ok x)⟩
end
end
end Go.Proofs.YtejkmhgkkibafaaGreatDoor
