/- Proofs, the program's: the texts that are summed up. Conditions: the tables hold their numbers. Proofs: the document's texts; what Check tells, the program's and the document's. Conditions: the tables hold their numbers; keys and values have 256 bits. -/
import Derived.Test.YtejkmhgkkibafaaGreatDoorJ35
import Derived.Test.YtejkmhgkkibafaaGreatDoorJ25
import Derived.Test.YtejkmhgkkibafaaGreatDoorJ6
set_option linter.unusedSimpArgs false
set_option linter.unusedVariables false
namespace Go.Proofs.YtejkmhgkkibafaaGreatDoor
section
set_option maxHeartbeats 3000000
set_option maxRecDepth 100000
open Go.RowKit
attribute [local irreducible] wpList J0k wpX
attribute [local irreducible] hs4 sE sL sN

theorem V1w {sv : Value} (hsv : sv.oneCell' = true) (th : Bool) (a x : Nat) (w : World) :
  Calls Tryz.prog 98 #[.agg (pfc sv th a x)] w fun e w' => ∃ v, e = .returned v ∧ SH [] w w' [.o v (tE th a x)] := by
 have hS := SH.nil [] w
 go_enter Tryz.func98, Tryz.ntmps98
 go_upto_region 0 with fail
 refine RL hS ?_
 clear hS
 refine MN (z := pfc sv th a x) (t := 53) ?_
 intro J1m
 refine MV ?_
 refine MZ fun W hS => ?_
 rcases th with _ | _
 ·
  have _f := True.intro
  go_upto_region 1 with fail
  refine RL hS ?_
  clear hS
  refine MV ?_
  refine MG 0 ?_ (v := .bool false) (hj := Q0l)
  refine MW ?_ (v := .bool true)
  refine MZ fun W hS => ?_
  go_upto_region 2 with fail
  refine RL hS ?_
  clear hS
  refine MO (m := [2]) (n := 1) (z := #[.int .u8 2]) ?_
  intro V5h
  refine MV ?_
  refine MZ fun W hS => ?_
  go_wp2
  exact bodyPost_ret (v := V5h) (by simp only [results, Tryz.results98]; go_simp) rfl ⟨_, rfl, hS.pick [0]⟩
 have _f := True.intro
 go_upto_region 1 with fail
 refine RL hS ?_
 clear hS
 refine MV ?_
 refine MG 0 ?_ (v := .bool true) (hj := Q0l)
 refine MW ?_ (v := .bool false)
 refine MZ fun W hS => ?_
 go_upto_region 3 with fail
 refine RTh (.q 1 (.q 2 (.q 3 (.q 5 (.q 6 (.q 7 (.e 0 (.e 4 (.e 8 (.q 9 .z)))))))))) hS ?_
 clear hS
 refine TV ?_
 refine TV ?_
 refine TW ?_ (v := .slice (some ⟨J1m, 2, none⟩) 32 32)
 refine TV ?_
 refine TV ?_
 refine TW ?_ (v := .slice (some ⟨J1m, 34, none⟩) 32 32)
 refine TE (fun _ h => h) ?_
 refine MO (m := [0]) (n := 1) (z := #[.int .u8 0]) ?_
 intro V7y
 refine TNp [1] [0] ?_
 refine TE (fun _ h => h.pick [1]) ?_
 refine MA 0 (xs := [0]) (ys := (lb 32 a)) (fun W hS => (J03 (V := a) (n := 32) (off := 2) (c := 32) (hS.blk (i := 1) rfl) Z4z (by decide) (by decide))) (by first | omega | (simp only [List.length_append, List.length_map, List.length_take, List.length_drop, List.length_reverse, List.length_cons, List.length_nil, Q2, dbl]; omega)) ?_
 intro V6e
 refine TNp [1] [0] ?_
 refine TE (fun _ h => h.pick [1]) ?_
 refine MA 0 (xs := ([0] ++ (lb 32 a))) (ys := (lb 32 x)) (fun W hS => (J03 (V := x) (n := 32) (off := 34) (c := 32) (hS.blk (i := 1) rfl) Y7o (by decide) (by decide))) (by first | omega | (simp only [List.length_append, List.length_map, List.length_take, List.length_drop, List.length_reverse, List.length_cons, List.length_nil, Q2, dbl]; omega)) ?_
 intro Q9g
 refine TNp [0, 1] [1] ?_
 refine TV ?_
 refine TZ (fun _ h => h) fun W hS => ?_
 go_wp2
 exact bodyPost_ret (v := Q9g) (by simp only [results, Tryz.results98]; go_simp) rfl ⟨_, rfl, hS.pick [0]⟩
theorem Z10 (d : Int) (b s o : Nat) (hb : b = 0 ∨ b = 1) (w : World) :
  Calls Tryz.prog 99 #[.int .i64 d, .int .i64 (b : Int), .agg (J0 .u8 32 (Q5 s)), .agg (J0 .u8 32 (Q5 o))] w fun e w' => ∃ v, e = .returned v ∧ SH [] w w' [.o v (tN d b s o)] := by
 have hS := SH.nil [] w
 go_enter Tryz.func99, Tryz.ntmps99
 go_upto_region 0 with fail
 refine RL hS ?_
 clear hS
 refine MN (z := J0 .u8 32 (Q5 s)) (t := 23) ?_
 intro Q9h
 refine MN (z := J0 .u8 32 (Q5 o)) (t := 23) ?_
 intro Q19
 refine MV ?_
 refine MZ fun W hS => ?_
 rcases hb with rfl | rfl
 ·
  have _f := True.intro
  go_upto_region 1 with fail
  refine RL hS ?_
  clear hS
  refine MV ?_
  refine MW ?_ (v := .bool false)
  refine MZ fun W hS => ?_
  go_upto_region 3 with fail
  refine RL hS ?_
  clear hS
  refine MV ?_
  refine MW ?_ (v := .int .i64 (d / 256)) (hv := by intro W; exact J0j (n := 8) (by decide) rfl rfl rfl)
  refine MW ?_ (v := .int .u8 ((UInt8.ofNat (d / 256 % 256).toNat).toNat : Int)) (hv := by intro W; rw [← Z2v d]; exact J19 rfl rfl)
  refine MV ?_
  refine MW ?_ (v := .int .u8 ((UInt8.ofNat (d % 256).toNat).toNat : Int)) (hv := by intro W; rw [← Z2w d]; exact J19 rfl rfl)
  refine MO (m := [1, UInt8.ofNat (d / 256 % 256).toNat, UInt8.ofNat (d % 256).toNat]) (n := 3) (z := #[.int .u8 1, .int .u8 ((UInt8.ofNat (d / 256 % 256).toNat).toNat : Int), .int .u8 ((UInt8.ofNat (d % 256).toNat).toNat : Int)]) ?_
  intro V6f
  refine MV ?_
  refine MZ fun W hS => ?_
  go_upto_region 4 with fail
  refine RTp [1, 2] (.q 0 (.q 1 (.q 3 (.e 2 (.e 4 (.q 5 .z)))))) hS ?_
  clear hS
  refine TV ?_
  refine TW ?_ (v := .slice (some ⟨Q9h, 0, none⟩) 32 32)
  refine TW ?_ (v := .slice (some ⟨Q19, 0, none⟩) 32 32)
  refine TE (fun _ h => h.pick [1, 2]) ?_
  refine MA 0 (xs := [1, UInt8.ofNat (d / 256 % 256).toNat, UInt8.ofNat (d % 256).toNat]) (ys := (lb 32 s)) (fun W hS => (J03 (V := s) (n := 32) (off := 0) (c := 32) (hS.blk (i := 2) rfl) ap0 (by decide) (by decide))) (by first | omega | (simp only [List.length_append, List.length_map, List.length_take, List.length_drop, List.length_reverse, List.length_cons, List.length_nil, Q2, dbl]; omega)) ?_
  intro V6g
  refine TNp [1, 2] [0, 1] ?_
  refine TE (fun _ h => h.pick [1, 2]) ?_
  refine MA 0 (xs := ([1, UInt8.ofNat (d / 256 % 256).toNat, UInt8.ofNat (d % 256).toNat] ++ (lb 32 s))) (ys := (lb 32 o)) (fun W hS => (J03 (V := o) (n := 32) (off := 0) (c := 32) (hS.blk (i := 1) rfl) ap0 (by decide) (by decide))) (by first | omega | (simp only [List.length_append, List.length_map, List.length_take, List.length_drop, List.length_reverse, List.length_cons, List.length_nil, Q2, dbl]; omega)) ?_
  intro V1x
  refine TNp [0, 1, 2] [1, 2] ?_
  refine TV ?_
  refine TZ (fun _ h => h) fun W hS => ?_
  go_wp2
  exact bodyPost_ret (v := V1x) (by simp only [results, Tryz.results99]; go_simp) rfl ⟨_, rfl, hS.pick [0]⟩
 have _f := True.intro
 go_upto_region 1 with fail
 refine RL hS ?_
 clear hS
 refine MV ?_
 refine MW ?_ (v := .bool true)
 refine MZ fun W hS => ?_
 go_upto_region 2 with fail
 refine RL hS ?_
 clear hS
 refine ML 0 ?_
 refine ML 1 ?_
 refine MR 1 ?_ 
 refine MR 0 ?_ 
 refine MZ fun W hS => ?_
 go_upto_region 3 with fail
 refine RL hS ?_
 clear hS
 refine MV ?_
 refine MW ?_ (v := .int .i64 (d / 256)) (hv := by intro W; exact J0j (n := 8) (by decide) rfl rfl rfl)
 refine MW ?_ (v := .int .u8 ((UInt8.ofNat (d / 256 % 256).toNat).toNat : Int)) (hv := by intro W; rw [← Z2v d]; exact J19 rfl rfl)
 refine MV ?_
 refine MW ?_ (v := .int .u8 ((UInt8.ofNat (d % 256).toNat).toNat : Int)) (hv := by intro W; rw [← Z2w d]; exact J19 rfl rfl)
 refine MO (m := [1, UInt8.ofNat (d / 256 % 256).toNat, UInt8.ofNat (d % 256).toNat]) (n := 3) (z := #[.int .u8 1, .int .u8 ((UInt8.ofNat (d / 256 % 256).toNat).toNat : Int), .int .u8 ((UInt8.ofNat (d % 256).toNat).toNat : Int)]) ?_
 intro V6h
 refine MV ?_
 refine MZ fun W hS => ?_
 go_upto_region 4 with fail
 refine RTp [1, 2] (.q 0 (.q 1 (.q 3 (.e 2 (.e 4 (.q 5 .z)))))) hS ?_
 clear hS
 refine TV ?_
 refine TW ?_ (v := .slice (some ⟨Q9h, 0, none⟩) 32 32)
 refine TW ?_ (v := .slice (some ⟨Q19, 0, none⟩) 32 32)
 refine TE (fun _ h => h.pick [1, 2]) ?_
 refine MA 0 (xs := [1, UInt8.ofNat (d / 256 % 256).toNat, UInt8.ofNat (d % 256).toNat]) (ys := (lb 32 o)) (fun W hS => (J03 (V := o) (n := 32) (off := 0) (c := 32) (hS.blk (i := 2) rfl) ap0 (by decide) (by decide))) (by first | omega | (simp only [List.length_append, List.length_map, List.length_take, List.length_drop, List.length_reverse, List.length_cons, List.length_nil, Q2, dbl]; omega)) ?_
 intro V6i
 refine TNp [1, 2] [0, 1] ?_
 refine TE (fun _ h => h.pick [1, 2]) ?_
 refine MA 0 (xs := ([1, UInt8.ofNat (d / 256 % 256).toNat, UInt8.ofNat (d % 256).toNat] ++ (lb 32 o))) (ys := (lb 32 s)) (fun W hS => (J03 (V := s) (n := 32) (off := 0) (c := 32) (hS.blk (i := 1) rfl) ap0 (by decide) (by decide))) (by first | omega | (simp only [List.length_append, List.length_map, List.length_take, List.length_drop, List.length_reverse, List.length_cons, List.length_nil, Q2, dbl]; omega)) ?_
 intro V1y
 refine TNp [0, 1, 2] [1, 2] ?_
 refine TV ?_
 refine TZ (fun _ h => h) fun W hS => ?_
 go_wp2
 exact bodyPost_ret (v := V1y) (by simp only [results, Tryz.results99]; go_simp) rfl ⟨_, rfl, hS.pick [0]⟩
def TXR (ts : List (List UInt8)) (w w' : World) (e : Ending) : Prop := ∃ p : Value × List Value, e = .returned p.1 ∧ SH [] w w' [.r 22 1 p.1 (p.2.map J95), .p (txF p.2 ts) (fun W => TXS W p.2 ts)] ∧ ∀ y ∈ [As.r 22 1 p.1 (p.2.map J95), As.p (txF p.2 ts) (fun W => TXS W p.2 ts)], y.mv = false → ∀ k ∈ y.foot, w.heap.size ≤ k
theorem J9u {k d : Nat} {ss : List Nat} {o : Nat} (h : ss[d]? = some o) (e : List UInt8) : tA k (ss.drop (d + 1)) (d + 1) e ++ [tT k (ss.drop d) d e] = tA k (ss.drop d) d e := by
 obtain ⟨h1, h2⟩ := List.getElem?_eq_some_iff.1 h
 rw [List.drop_eq_getElem_cons h1]; rfl
theorem J9v {k d : Nat} {ss : List Nat} {o : Nat} (h : ss[d]? = some o) (e : List UInt8) : tT k (ss.drop d) d e = tN (d : Int) (kb k d) (hs4 (tT k (ss.drop (d + 1)) (d + 1) e)) o := by
 obtain ⟨h1, h2⟩ := List.getElem?_eq_some_iff.1 h
 rw [List.drop_eq_getElem_cons h1, h2]; rfl
theorem Z2x {q : Prop} {ss : List Nat} {sv : Value} {th : Bool} {k a x : Nat} (hn : ss.length ≤ 1000) (w : World) (hG : GT q w) (hp : RR 32 w sv (ss.map J1e)) :
  Calls Tryz.prog 56 #[.agg (J0 .u8 32 (Q5 k)), .agg (pfc sv th a x)] w fun e w' => TXR (tA k ss 0 (tE th a x)) w w' e := by
 obtain ⟨Ap, cp, rfl, hlcp, HRp⟩ := RR.opf hp
 have hS := SH.nil [] w
 go_enter Tryz.func56, Tryz.ntmps56
 go_upto_region 0 with fail
 refine RL hS ?_
 clear hS
 refine MN (z := J0 .u8 32 (Q5 k)) (t := 31) ?_
 intro J0a
 refine MN (z := pfc (.slice Ap ss.length cp) th a x) (t := 53) ?_
 intro J1z
 refine MV ?_
 refine MZ fun W hS => ?_
 go_upto_region 1 with fail
 refine RL hS ?_
 clear hS
 refine ML 0 ?_ (hs := by rw [J01]; kernel_rfl)
 refine ME (V := fun v => v) (fun W hS => J33 hS (V1w rfl th a x W) (fun _ => ⟨rfl, rfl⟩)) ?_
 intro ev
 refine MB (z := #[ev]) (t := 22) (n := 1) (c := 1) ?_ (hr := fun W hS => J0h [ev] rfl rfl (vsc (V3 (hS.osl (i := 0) rfl)).1 vs0) Tryz.underlying113 (by kernel_rfl) (by kernel_rfl) rfl (by decide) (by decide))
 intro V80
 refine MV ?_
 refine MZ fun W hS => ?_
 go_upto_region 2 with fail
 refine RL hS ?_
 clear hS
 refine MV ?_
 refine MG 2 ?_ (v := .slice Ap ss.length cp) (hj := J6p)
 refine MV ?_
 refine MW ?_ (v := .int .i64 ((ss.length : Int) - 1)) (hv := by intro W; go_simp; (try simp only [IntKind.wrap_i64]); omega)
 refine MV ?_
 refine MZ fun W hS => ?_
 have hS := hS.b2r (k := 1) (es := List.map J95 [ev]) (n := 1) (by rfl) (by intro e he; simp at he; subst he; rfl) rfl (by decide)
 have hS := hS.txn
 have hfr : ∀ k ∈ txF [] [], w.heap.size ≤ k := fun k hk => by cases hk
 have hfr := hS.fresh (j := 2) (u := ev) (us := []) (ts := []) rfl rfl hfr
 have hS := hS.read (i := 2) rfl (hS.osl (i := 2) rfl) J2r
 have hS := hS.txs (i := 0) (j := 2) rfl rfl
 go_wp2_with fail
 go_loopw [5, 6] (fun uu ii wr => ∃ (j : Nat) (us : List Value) (sl : Value) (iv : Int), (j ≤ ss.length) ∧ (∀ k_ ∈ txF us (tA k (List.drop j ss) j (tE th a x)), w.heap.size ≤ k_) ∧ (sl = uu) ∧ (iv = (j : Int) - 1) ∧ (ii = .int .i64 iv) ∧ SH [] w wr [.p (txF us (tA k (List.drop j ss) j (tE th a x))) (fun W => TXS W us (tA k (List.drop j ss) j (tE th a x))), .r 22 1 sl (List.map J95 us), .b J0a (J0 .u8 32 (Q5 k)) 31, .b J1z (pfc (.slice Ap ss.length cp) th a x) 53])
  (fun uu ii _ => ((intOf ii) + 1).toNat)
 case atStart => exact ⟨ss.length, [ev], _, _, Nat.le_refl _, by rw [List.drop_length]; exact hfr, rfl, rfl, rfl, (by rw [List.drop_length]; exact (hS.pick [0, 2, 5, 4]))⟩
 clear hS
 case round =>
  obtain ⟨j, us, sl, iv, hj, hfr, rfl, hiv, rfl, hS⟩ := hrel
  rcases j with _ | d
  ·
   have _f := True.intro
   obtain rfl : iv = -1 := by omega
   clear hiv
   rw [List.drop_zero] at hS hfr
   go_upto_region 3 with fail
   refine RL hS ?_
   clear hS
   refine MW ?_ (v := .int .i64 (-1))
   refine MW ?_ (v := .bool false)
   refine MZ fun W hS => ?_
   go_wp2
   exact bodyPost_ret (v := sl) (by simp only [results, Tryz.results56]; go_simp) rfl ⟨(_, us), rfl, hS.pick [1, 0], Y7l hfr⟩
  have _f := True.intro
  obtain rfl : iv = (d : Int) := by omega
  clear hiv
  obtain ⟨u, uh, ush⟩ := Q43 (hS.pp (i := 0) rfl) (J1i k (tE th a x) (List.drop (d + 1) ss) (d + 1))
  obtain ⟨A1, c1, hv1, _, HR1⟩ := RR.opf (hS.row (i := 1) rfl).rr
  subst hv1
  obtain ⟨g1, o1, A10, _⟩ := HR1.out _ u uh
  have HA1 := Lib.hid A10
  clear A10 HR1
  have hul : us.length = (List.drop (d + 1) ss).length + 1 := by rw [(hS.pp (i := 0) rfl).1, J93]
  obtain ⟨nL, hnL⟩ : ∃ nL, (List.drop (d + 1) ss).length = nL := ⟨_, rfl⟩
  have hnL2 : nL ≤ ss.length := by rw [← hnL, List.length_drop]; omega
  rw [hnL] at uh hul
  have husl : us.length ≤ 1001 := by omega
  have hlt_ : (tT k (List.drop (d + 1) ss) (d + 1) (tE th a x)).length ≤ 67 := Q45 k (Q44 ..) _ _
  have Hul := Lib.hid hul
  clear hul
  have hdlt : d < ss.length := by omega
  obtain ⟨o, oh⟩ : ∃ o, ss[d]? = some o := ⟨_, List.getElem?_eq_getElem (show d < ss.length by omega)⟩
  obtain ⟨gp, op, A0p, c0p⟩ := HRp.out d o oh
  have HAp := Lib.hid A0p
  clear A0p
  go_upto_region 3 with fail
  refine RL hS ?_
  clear hS
  refine MV ?_
  refine MW ?_ (v := .bool true)
  refine MZ fun W hS => ?_
  go_upto_region 5 with fail
  refine RTp [0, 2, 3] (.q 0 (.q 1 (.q 2 (.q 3 (.q 5 (.q 6 (.q 7 (.q 8 (.q 9 (.q 13 (.q 14 (.q 15 (.q 16 (.q 17 (.b 4 (.e 10 (.e 11 (.e 12 (.e 18 (.e 19 (.e 20 (.q 21 .z))))))) 10 (.b 4 (.e 11 (.e 12 (.e 18 (.e 19 (.e 20 (.q 21 .z)))))) 11 (.e 4 (.e 12 (.e 18 (.e 19 (.e 20 (.q 21 .z)))))))))))))))))))))) hS ?_
  clear hS
  refine TV ?_
  refine TV ?_
  refine TL 1 ?_
  refine TV ?_
  refine TV ?_
  refine TV ?_
  refine TW ?_ (v := .int .i64 (us.length : Int)) (hv := by intro W; exact J6c rfl rfl Tryz.underlying113)
  refine TW ?_ (v := .int .i64 (nL : Int)) (hv := by intro W; have hul := Hul.out; go_simp; (try simp only [IntKind.wrap_i64]); omega)
  refine TW ?_ (v := .pointer (some ⟨g1, o1 + nL * 1, none⟩)) (hv := fun _ => V0 HA1.out (show nL < us.length by have h_ := Hul.out; omega) rfl rfl rfl Tryz.underlying113 (by kernel_rfl))
  refine TV ?_
  refine TG 2 ?_ (v := .slice Ap ss.length cp) (hj := J6p)
  refine TV ?_
  refine TW ?_ (v := .pointer (some ⟨gp, op + d * 32, none⟩)) (hv := fun _ => V0 HAp.out hdlt rfl rfl rfl Tryz.underlying49 (by kernel_rfl))
  refine TF (v := .agg (J0 .u8 32 (Q5 o))) rfl (fun W hS => K4 rfl rfl (fun i_ v hv => K5 (c0p i_ v (by simpa using hv)) hS.ext) (by kernel_rfl) (by rw [J2]; kernel_rfl)) ?_
  refine TB (fun _ h => h.pick [0, 2, 3]) ?_ ?_
  ·
   skip
   refine MC (v := .int .i64 ((kb k d : Nat) : Int)) (fun W hS => J6e k d (by omega) W) ?_
   refine TNp [0, 2, 3] [0, 1, 2] ?_
   refine TE (fun _ h => h.pick [0, 2, 3]) ?_
   refine MF (v := u) (fun W hS => V2 rfl rfl ((RR.cellat (hS.row (i := 1) rfl).rr (by rw [List.getElem?_map, uh]; rfl) HA1.out) 0 _ rfl) (by kernel_rfl)) ?_
   refine TNp [0, 2, 3] [0, 1, 2] ?_
   refine TE (fun _ h => h.pick [0, 2, 3]) ?_
   refine MB (z := #[u]) (t := 22) (n := 1) (c := 1) ?_ (hr := fun W hS => J0h [u] rfl rfl (vsc (V3 ((hS.pp (i := 0) rfl).2 nL u _ uh (by rw [← hnL]; exact J1i _ _ _ _))).1 vs0) Tryz.underlying113 (by kernel_rfl) (by kernel_rfl) rfl (by decide) (by decide))
   intro V1z
   refine TNp [0, 1, 3, 4] [1, 2, 3] ?_
   refine TE (fun _ h => h.pick [0, 1, 3, 4]) ?_
   obtain ⟨U1, hU1⟩ := exn (hs4 ((tT k (List.drop (d + 1) ss) (d + 1) (tE th a x))))
   have HU1 := Lib.hid hU1
   clear hU1
   refine MC (v := .agg (J0 .u8 32 (Q5 U1))) (fun W hS => J3f HU1.out [tT k (List.drop (d + 1) ss) (d + 1) (tE th a x)] (some ⟨V1z, 0, none⟩) 1 (by simp only [List.flatten_cons, List.flatten_nil, List.append_nil, List.nil_append, List.append_assoc, List.cons_append]) (by first | omega | (simp only [List.length_append, List.length_cons, List.length_nil, Q2, dbl]; omega)) (by simp) W (J10 (hS.blk (i := 0) rfl) (pvc ((hS.pp (i := 1) rfl).2 nL u _ uh (by rw [← hnL]; exact J1i _ _ _ _)) pv0)) (J1a hG.1 hS.ext)) ?_
   refine TNp [0, 1, 3, 4] [0, 1, 2, 3] ?_
   refine TE (fun _ h => h.pick [0, 1, 3, 4]) ?_
   refine ME (V := fun v => v) (fun W hS => J33 hS (Z10 (d : Int) (kb k d) U1 o (Q62 k d) W) (fun _ => ⟨rfl, rfl⟩)) ?_
   intro nv
   refine J3r (fun W hS => (V3 (hS.osl (i := 0) rfl)).2) ?_
   intro oc_nv
   refine TNp [0, 1, 2, 4, 5] [1, 2, 3, 4] ?_
   refine TE (fun _ h => h.pick [0, 1, 2, 4, 5]) ?_
   refine MB (z := #[nv]) (t := 22) (n := 1) (c := 1) ?_ (hr := fun W hS => J0h [nv] rfl rfl (vsc (V3 (hS.osl (i := 0) rfl)).1 vs0) Tryz.underlying113 (by kernel_rfl) (by kernel_rfl) rfl (by decide) (by decide))
   intro V6j
   refine TNp [0, 1, 2, 3, 5, 6] [1, 2, 3, 4, 5] ?_
   refine TE (fun _ h => h.pick [0, 1, 2, 3, 5, 6]) ?_
   refine MAr 4 0 (tS := 113) (bytes := 24) (es := (List.map J95 us)) (by first | omega | (simp only [List.length_append, List.length_map, List.length_take, List.length_drop, List.length_reverse, List.length_cons, List.length_nil, Q2, dbl]; omega)) (e := ([nv] : List Value)) (h1 := Y7b oc_nv) ?_
   intro Z7r
   refine TNp [0, 1, 2, 3, 4, 5, 6] [0, 1, 2, 3, 5, 6] ?_
   refine TV ?_
   refine TZ (fun _ h => h) fun W hS => ?_
   go_upto_region 4 with fail
   refine RL hS ?_
   clear hS
   refine MV ?_
   refine MW ?_ (v := .int .i64 ((d : Int) - 1)) (hv := by intro W; go_simp; (try simp only [IntKind.wrap_i64]); omega)
   refine MV ?_
   refine MZ fun W hS => ?_
   have hfr2 := hS.fresh (j := 1) rfl (hS.pp (i := 3) rfl).1 hfr
   have hS := hS.read (i := 1) rfl (hS.osl (i := 1) rfl) J2r
   have hS := hS.txs (i := 3) (j := 1) rfl rfl
   go_wp2
   go_roundw
   case rel => exact ⟨d, (us ++ [nv]), Z7r, ((d : Int) - 1), by omega, by rw [← J9u oh, J9v oh, ← HU1.out]; exact hfr2, rfl, rfl, rfl, (by rw [← J9u oh, J9v oh, ← HU1.out, List.map_append]; exact (hS.pick [0, 5, 6, 7]))⟩
   case measure => (simp [intOf]; try omega)
  skip
  refine MF (v := u) (fun W hS => V2 rfl rfl ((RR.cellat (hS.row (i := 1) rfl).rr (by rw [List.getElem?_map, uh]; rfl) HA1.out) 0 _ rfl) (by kernel_rfl)) ?_
  refine TNp [0, 2, 3] [0, 1, 2] ?_
  refine TB (fun _ h => h.pick [0, 2, 3]) ?_ ?_
  ·
   skip
   refine MC (v := .int .i64 ((kb k d : Nat) : Int)) (fun W hS => J6e k d (by omega) W) ?_
   refine TNp [0, 2, 3] [0, 1, 2] ?_
   refine TE (fun _ h => h.pick [0, 2, 3]) ?_
   refine MB (z := #[u]) (t := 22) (n := 1) (c := 1) ?_ (hr := fun W hS => J0h [u] rfl rfl (vsc (V3 ((hS.pp (i := 0) rfl).2 nL u _ uh (by rw [← hnL]; exact J1i _ _ _ _))).1 vs0) Tryz.underlying113 (by kernel_rfl) (by kernel_rfl) rfl (by decide) (by decide))
   intro V20
   refine TNp [0, 1, 3, 4] [1, 2, 3] ?_
   refine TE (fun _ h => h.pick [0, 1, 3, 4]) ?_
   obtain ⟨U1, hU1⟩ := exn (hs4 ((tT k (List.drop (d + 1) ss) (d + 1) (tE th a x))))
   have HU1 := Lib.hid hU1
   clear hU1
   refine MC (v := .agg (J0 .u8 32 (Q5 U1))) (fun W hS => J3f HU1.out [tT k (List.drop (d + 1) ss) (d + 1) (tE th a x)] (some ⟨V20, 0, none⟩) 1 (by simp only [List.flatten_cons, List.flatten_nil, List.append_nil, List.nil_append, List.append_assoc, List.cons_append]) (by first | omega | (simp only [List.length_append, List.length_cons, List.length_nil, Q2, dbl]; omega)) (by simp) W (J10 (hS.blk (i := 0) rfl) (pvc ((hS.pp (i := 1) rfl).2 nL u _ uh (by rw [← hnL]; exact J1i _ _ _ _)) pv0)) (J1a hG.1 hS.ext)) ?_
   refine TNp [0, 1, 3, 4] [0, 1, 2, 3] ?_
   refine TE (fun _ h => h.pick [0, 1, 3, 4]) ?_
   refine ME (V := fun v => v) (fun W hS => J33 hS (Z10 (d : Int) (kb k d) U1 o (Q62 k d) W) (fun _ => ⟨rfl, rfl⟩)) ?_
   intro nv
   refine J3r (fun W hS => (V3 (hS.osl (i := 0) rfl)).2) ?_
   intro oc_nv
   refine TNp [0, 1, 2, 4, 5] [1, 2, 3, 4] ?_
   refine TE (fun _ h => h.pick [0, 1, 2, 4, 5]) ?_
   refine MB (z := #[nv]) (t := 22) (n := 1) (c := 1) ?_ (hr := fun W hS => J0h [nv] rfl rfl (vsc (V3 (hS.osl (i := 0) rfl)).1 vs0) Tryz.underlying113 (by kernel_rfl) (by kernel_rfl) rfl (by decide) (by decide))
   intro V6k
   refine TNp [0, 1, 2, 3, 5, 6] [1, 2, 3, 4, 5] ?_
   refine TE (fun _ h => h.pick [0, 1, 2, 3, 5, 6]) ?_
   refine MAr 4 0 (tS := 113) (bytes := 24) (es := (List.map J95 us)) (by first | omega | (simp only [List.length_append, List.length_map, List.length_take, List.length_drop, List.length_reverse, List.length_cons, List.length_nil, Q2, dbl]; omega)) (e := ([nv] : List Value)) (h1 := Y7b oc_nv) ?_
   intro V21
   refine TNp [0, 1, 2, 3, 4, 5, 6] [0, 1, 2, 3, 5, 6] ?_
   refine TV ?_
   refine TZ (fun _ h => h) fun W hS => ?_
   go_upto_region 4 with fail
   refine RL hS ?_
   clear hS
   refine MV ?_
   refine MW ?_ (v := .int .i64 ((d : Int) - 1)) (hv := by intro W; go_simp; (try simp only [IntKind.wrap_i64]); omega)
   refine MV ?_
   refine MZ fun W hS => ?_
   have hfr2 := hS.fresh (j := 1) rfl (hS.pp (i := 3) rfl).1 hfr
   have hS := hS.read (i := 1) rfl (hS.osl (i := 1) rfl) J2r
   have hS := hS.txs (i := 3) (j := 1) rfl rfl
   go_wp2
   go_roundw
   case rel => exact ⟨d, (us ++ [nv]), V21, ((d : Int) - 1), by omega, by rw [← J9u oh, J9v oh, ← HU1.out]; exact hfr2, rfl, rfl, rfl, (by rw [← J9u oh, J9v oh, ← HU1.out, List.map_append]; exact (hS.pick [0, 5, 6, 7]))⟩
   case measure => (simp [intOf]; try omega)
  skip
  refine MB (z := #[u]) (t := 22) (n := 1) (c := 1) ?_ (hr := fun W hS => J0h [u] rfl rfl (vsc (V3 ((hS.pp (i := 0) rfl).2 nL u _ uh (by rw [← hnL]; exact J1i _ _ _ _))).1 vs0) Tryz.underlying113 (by kernel_rfl) (by kernel_rfl) rfl (by decide) (by decide))
  intro Y7q
  refine TNp [0, 1, 3, 4] [1, 2, 3] ?_
  refine TE (fun _ h => h.pick [0, 1, 3, 4]) ?_
  refine MC (v := .int .i64 ((kb k d : Nat) : Int)) (fun W hS => J6e k d (by omega) W) ?_
  refine TNp [0, 1, 3, 4] [0, 1, 2, 3] ?_
  refine TE (fun _ h => h.pick [0, 1, 3, 4]) ?_
  obtain ⟨U1, hU1⟩ := exn (hs4 ((tT k (List.drop (d + 1) ss) (d + 1) (tE th a x))))
  have HU1 := Lib.hid hU1
  clear hU1
  refine MC (v := .agg (J0 .u8 32 (Q5 U1))) (fun W hS => J3f HU1.out [tT k (List.drop (d + 1) ss) (d + 1) (tE th a x)] (some ⟨Y7q, 0, none⟩) 1 (by simp only [List.flatten_cons, List.flatten_nil, List.append_nil, List.nil_append, List.append_assoc, List.cons_append]) (by first | omega | (simp only [List.length_append, List.length_cons, List.length_nil, Q2, dbl]; omega)) (by simp) W (J10 (hS.blk (i := 0) rfl) (pvc ((hS.pp (i := 1) rfl).2 nL u _ uh (by rw [← hnL]; exact J1i _ _ _ _)) pv0)) (J1a hG.1 hS.ext)) ?_
  refine TNp [0, 1, 3, 4] [0, 1, 2, 3] ?_
  refine TE (fun _ h => h.pick [0, 1, 3, 4]) ?_
  refine ME (V := fun v => v) (fun W hS => J33 hS (Z10 (d : Int) (kb k d) U1 o (Q62 k d) W) (fun _ => ⟨rfl, rfl⟩)) ?_
  intro nv
  refine J3r (fun W hS => (V3 (hS.osl (i := 0) rfl)).2) ?_
  intro oc_nv
  refine TNp [0, 1, 2, 4, 5] [1, 2, 3, 4] ?_
  refine TE (fun _ h => h.pick [0, 1, 2, 4, 5]) ?_
  refine MB (z := #[nv]) (t := 22) (n := 1) (c := 1) ?_ (hr := fun W hS => J0h [nv] rfl rfl (vsc (V3 (hS.osl (i := 0) rfl)).1 vs0) Tryz.underlying113 (by kernel_rfl) (by kernel_rfl) rfl (by decide) (by decide))
  intro V5i
  refine TNp [0, 1, 2, 3, 5, 6] [1, 2, 3, 4, 5] ?_
  refine TE (fun _ h => h.pick [0, 1, 2, 3, 5, 6]) ?_
  refine MAr 4 0 (tS := 113) (bytes := 24) (es := (List.map J95 us)) (by first | omega | (simp only [List.length_append, List.length_map, List.length_take, List.length_drop, List.length_reverse, List.length_cons, List.length_nil, Q2, dbl]; omega)) (e := ([nv] : List Value)) (h1 := Y7b oc_nv) ?_
  intro Y7r
  refine TNp [0, 1, 2, 3, 4, 5, 6] [0, 1, 2, 3, 5, 6] ?_
  refine TV ?_
  refine TZ (fun _ h => h) fun W hS => ?_
  go_upto_region 4 with fail
  refine RL hS ?_
  clear hS
  refine MV ?_
  refine MW ?_ (v := .int .i64 ((d : Int) - 1)) (hv := by intro W; go_simp; (try simp only [IntKind.wrap_i64]); omega)
  refine MV ?_
  refine MZ fun W hS => ?_
  have hfr2 := hS.fresh (j := 1) rfl (hS.pp (i := 3) rfl).1 hfr
  have hS := hS.read (i := 1) rfl (hS.osl (i := 1) rfl) J2r
  have hS := hS.txs (i := 3) (j := 1) rfl rfl
  go_wp2
  go_roundw
  case rel => exact ⟨d, (us ++ [nv]), Y7r, ((d : Int) - 1), by omega, by rw [← J9u oh, J9v oh, ← HU1.out]; exact hfr2, rfl, rfl, rfl, (by rw [← J9u oh, J9v oh, ← HU1.out, List.map_append]; exact (hS.pick [0, 5, 6, 7]))⟩
  case measure => (simp [intOf]; try omega)
end

section
set_option maxHeartbeats 3000000
set_option maxRecDepth 100000
open Go.RowKit
attribute [local irreducible] wpList J0k wpX
theorem Y7s (n c : Nat) (th : Bool) : 256 < n ∨ (n ≤ 256 ∧ th = false) ∨ (n ≤ 256 ∧ th = true ∧ c < n) ∨ (n ≤ 256 ∧ th = true ∧ n ≤ c) := by
 cases th
 ·
  by_cases h : 256 < n
  ·
   exact .inl h
  exact .inr (.inl ⟨by omega, rfl⟩)
 by_cases h : 256 < n
 ·
  exact .inl h
 by_cases h2 : c < n
 ·
  exact .inr (.inr (.inl ⟨by omega, rfl, h2⟩))
 exact .inr (.inr (.inr ⟨by omega, rfl, by omega⟩))
attribute [local irreducible] hs4 sE sL sN lb
end
end Go.Proofs.YtejkmhgkkibafaaGreatDoor
