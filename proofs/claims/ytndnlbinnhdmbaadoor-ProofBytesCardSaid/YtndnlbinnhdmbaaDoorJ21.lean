/- The sum of the byte 2 (sha2), reckoned step by step from numbers that are written down. No conditions. Proofs: Prove; the laws' to, from, tame, leaves, proofs; the document's Same, Clash. Conditions: the tables hold their numbers; keys and values have 256 bits. -/
import Derived.Test.YtndnlbinnhdmbaaDoorJ14
import Derived.Test.YtndnlbinnhdmbaaDoorJ20
set_option linter.unusedSimpArgs false
set_option linter.unusedVariables false
namespace Go.Proofs.YtndnlbinnhdmbaaDoor
open Go.RowKit
def gl4 (l : List Int) (j : Nat) : Int := l.getD j 0
theorem sg4_congr {f g : Nat → Int} {i : Nat} (hi : 16 ≤ i) (h : ∀ j, j < i → f j = g j) : sg4 f i = sg4 g i := by
  unfold sg4
  rw [h (i - 16) (by omega), h (i - 15) (by omega), h (i - 7) (by omega), h (i - 2) (by omega)]
theorem sch4_lit {b : Nat → Int} {L : List Int} (h : ∀ i, i < 64 → gl4 L i = if i < 16 then wrd4 b i 4 else sg4 (gl4 L) i) : ∀ i, i ≤ 64 → ∀ j, j < i → sch4 b i j = gl4 L j
  | 0, _, _, hj => by omega
  | i + 1, hi, j, hj => by
    have ih := sch4_lit h i (by omega)
    show upd (sch4 b i) i (if i < 16 then wrd4 b i 4 else sg4 (sch4 b i) i) j = _
    unfold upd
    by_cases e : j = i
    · subst e
      rw [if_pos rfl, h j (by omega)]
      by_cases h16 : j < 16
      · rw [if_pos h16, if_pos h16]
      · rw [if_neg h16, if_neg h16]
        exact sg4_congr (by omega) ih
    · rw [if_neg e]
      exact ih j (by omega)
theorem rnd4_congr {k w w' u v : Nat → Int} {i : Nat} (hw : w i = w' i) (h : ∀ j, j < 8 → u j = v j) : ∀ j, rnd4 k w i u j = rnd4 k w' i v j := by
  intro j
  have hT : rT4 k w i u = rT4 k w' i v := by
    unfold rT4
    rw [h 7 (by omega), h 4 (by omega), h 5 (by omega), h 6 (by omega), hw]
  have hU : rU4 u = rU4 v := by
    unfold rU4
    rw [h 0 (by omega), h 1 (by omega), h 2 (by omega)]
  match j with
  | 0 => show ad4 (rT4 k w i u) (rU4 u) = ad4 (rT4 k w' i v) (rU4 v); rw [hT, hU]
  | 1 => exact h 0 (by omega)
  | 2 => exact h 1 (by omega)
  | 3 => exact h 2 (by omega)
  | 4 => show ad4 (u 3) (rT4 k w i u) = ad4 (v 3) (rT4 k w' i v); rw [hT, h 3 (by omega)]
  | 5 => exact h 4 (by omega)
  | 6 => exact h 5 (by omega)
  | 7 => exact h 6 (by omega)
  | n + 8 => rfl
theorem rnds4_lit {k w v : Nat → Int} {L : List Int} {S : List (List Int)} (hw : ∀ j, j < 64 → w j = gl4 L j) (h0 : ∀ j, j < 8 → v j = gl4 (S.getD 0 []) j) (h : ∀ i, i < 64 → ∀ j, j < 8 → gl4 (S.getD (i + 1) []) j = rnd4 k (gl4 L) i (gl4 (S.getD i [])) j) :
    ∀ i, i ≤ 64 → ∀ j, j < 8 → rnds4 k w v i j = gl4 (S.getD i []) j
  | 0, _, j, hj => h0 j hj
  | i + 1, hi, j, hj => by
    have ih := rnds4_lit hw h0 h i (by omega)
    show rnd4 k w i (rnds4 k w v i) j = _
    rw [h i (by omega) j hj]
    exact rnd4_congr (hw i (by omega)) ih j
def twoW : List Int := [41943040, 0, 0, 0, 0, 0, 0, 0, 0, 0, 0, 0, 0, 0, 0, 8, 41943040, 327680, 41232, 536871234, 1151991848, 8475648, 1073741896, 2197823493, 4335616, 337859320, 1895829989, 131072105, 190032548, 1077434202, 856059951, 569216694, 1287830392, 4023310061, 2460043514, 3036310208, 1731867360, 1143948976, 3565872500, 2775236096, 1145371468, 1885935368, 3687389746, 3159961754, 2805899386, 2537646813, 1751177647, 1445131325, 2831241229, 2775861677, 3731775347, 1251242551, 2625459322, 2923791785, 3853158523, 1867090214, 1509234320, 2093327914, 3200197198, 173852199, 3191281601, 3732465482, 239670996, 2044622888]
def twoS : List (List Int) := [[1779033703, 3144134277, 1013904242, 2773480762, 1359893119, 2600822924, 528734635, 1541459225], [4270360653, 1779033703, 3144134277, 1013904242, 2605179554, 1359893119, 2600822924, 528734635], [965156503, 4270360653, 1779033703, 3144134277, 1543471639, 2605179554, 1359893119, 2600822924], [3984565980, 965156503, 4270360653, 1779033703, 129724319, 1543471639, 2605179554, 1359893119], [432080519, 3984565980, 965156503, 4270360653, 2467785746, 129724319, 1543471639, 2605179554], [2489082765, 432080519, 3984565980, 965156503, 1657491829, 2467785746, 129724319, 1543471639], [33981470, 2489082765, 432080519, 3984565980, 2503667671, 1657491829, 2467785746, 129724319], [2692852362, 33981470, 2489082765, 432080519, 3277554076, 2503667671, 1657491829, 2467785746], [1208503982, 2692852362, 33981470, 2489082765, 3873795706, 3277554076, 2503667671, 1657491829], [720005992, 1208503982, 2692852362, 33981470, 4177221022, 3873795706, 3277554076, 2503667671], [1645552638, 720005992, 1208503982, 2692852362, 1128058960, 4177221022, 3873795706, 3277554076], [3757396058, 1645552638, 720005992, 1208503982, 1114959128, 1128058960, 4177221022, 3873795706], [2055795224, 3757396058, 1645552638, 720005992, 1999707273, 1114959128, 1128058960, 4177221022], [45212121, 2055795224, 3757396058, 1645552638, 90001852, 1999707273, 1114959128, 1128058960], [1495218703, 45212121, 2055795224, 3757396058, 3600769986, 90001852, 1999707273, 1114959128], [363777415, 1495218703, 45212121, 2055795224, 540340394, 3600769986, 90001852, 1999707273], [168549303, 363777415, 1495218703, 45212121, 1617945087, 540340394, 3600769986, 90001852], [3794747924, 168549303, 363777415, 1495218703, 2608647627, 1617945087, 540340394, 3600769986], [2812048548, 3794747924, 168549303, 363777415, 1768378533, 2608647627, 1617945087, 540340394], [186972799, 2812048548, 3794747924, 168549303, 2176041470, 1768378533, 2608647627, 1617945087], [36103609, 186972799, 2812048548, 3794747924, 3861754792, 2176041470, 1768378533, 2608647627], [1372431400, 36103609, 186972799, 2812048548, 973120814, 3861754792, 2176041470, 1768378533], [2085948221, 1372431400, 36103609, 186972799, 489379208, 973120814, 3861754792, 2176041470], [3227441739, 2085948221, 1372431400, 36103609, 678156795, 489379208, 973120814, 3861754792], [2314819369, 3227441739, 2085948221, 1372431400, 3802273620, 678156795, 489379208, 973120814], [4271242774, 2314819369, 3227441739, 2085948221, 1234668270, 3802273620, 678156795, 489379208], [1264422171, 4271242774, 2314819369, 3227441739, 3857312125, 1234668270, 3802273620, 678156795], [1374259744, 1264422171, 4271242774, 2314819369, 2050044105, 3857312125, 1234668270, 3802273620], [1862345440, 1374259744, 1264422171, 4271242774, 3117186932, 2050044105, 3857312125, 1234668270], [3318669097, 1862345440, 1374259744, 1264422171, 1892852242, 3117186932, 2050044105, 3857312125], [2459051942, 3318669097, 1862345440, 1374259744, 3840207862, 1892852242, 3117186932, 2050044105], [2643877229, 2459051942, 3318669097, 1862345440, 1458518203, 3840207862, 1892852242, 3117186932], [1301826493, 2643877229, 2459051942, 3318669097, 1367753169, 1458518203, 3840207862, 1892852242], [2746527477, 1301826493, 2643877229, 2459051942, 1548661590, 1367753169, 1458518203, 3840207862], [3320395484, 2746527477, 1301826493, 2643877229, 4243271151, 1548661590, 1367753169, 1458518203], [4104476697, 3320395484, 2746527477, 1301826493, 2839311520, 4243271151, 1548661590, 1367753169], [3973757821, 4104476697, 3320395484, 2746527477, 742863711, 2839311520, 4243271151, 1548661590], [86658045, 3973757821, 4104476697, 3320395484, 4190208220, 742863711, 2839311520, 4243271151], [82964315, 86658045, 3973757821, 4104476697, 782465793, 4190208220, 742863711, 2839311520], [3737524347, 82964315, 86658045, 3973757821, 1377260749, 782465793, 4190208220, 742863711], [3894497749, 3737524347, 82964315, 86658045, 2752193154, 1377260749, 782465793, 4190208220], [2306950976, 3894497749, 3737524347, 82964315, 1340733187, 2752193154, 1377260749, 782465793], [1525573556, 2306950976, 3894497749, 3737524347, 2045109698, 1340733187, 2752193154, 1377260749], [1553666897, 1525573556, 2306950976, 3894497749, 3761783811, 2045109698, 1340733187, 2752193154], [637415543, 1553666897, 1525573556, 2306950976, 330487166, 3761783811, 2045109698, 1340733187], [3474757902, 637415543, 1553666897, 1525573556, 1234709854, 330487166, 3761783811, 2045109698], [4292743080, 3474757902, 637415543, 1553666897, 56164458, 1234709854, 330487166, 3761783811], [2191284936, 4292743080, 3474757902, 637415543, 3033167366, 56164458, 1234709854, 330487166], [3657130803, 2191284936, 4292743080, 3474757902, 2832553928, 3033167366, 56164458, 1234709854], [1060070492, 3657130803, 2191284936, 4292743080, 805362002, 2832553928, 3033167366, 56164458], [4214524593, 1060070492, 3657130803, 2191284936, 3466061681, 805362002, 2832553928, 3033167366], [844755768, 4214524593, 1060070492, 3657130803, 3226382059, 3466061681, 805362002, 2832553928], [2603136435, 844755768, 4214524593, 1060070492, 1196107750, 3226382059, 3466061681, 805362002], [863520320, 2603136435, 844755768, 4214524593, 3454975142, 1196107750, 3226382059, 3466061681], [485495909, 863520320, 2603136435, 844755768, 82124103, 3454975142, 1196107750, 3226382059], [1337947898, 485495909, 863520320, 2603136435, 1113317095, 82124103, 3454975142, 1196107750], [311776450, 1337947898, 485495909, 863520320, 3017763482, 1113317095, 82124103, 3454975142], [263659451, 311776450, 1337947898, 485495909, 2895333193, 3017763482, 1113317095, 82124103], [1431513747, 263659451, 311776450, 1337947898, 2151715222, 2895333193, 3017763482, 1113317095], [1729622368, 1431513747, 263659451, 311776450, 3520863327, 2151715222, 2895333193, 3017763482], [638872359, 1729622368, 1431513747, 263659451, 613367483, 3520863327, 2151715222, 2895333193], [552079047, 638872359, 1729622368, 1431513747, 142019693, 613367483, 3520863327, 2151715222], [451701299, 552079047, 638872359, 1729622368, 737349869, 142019693, 613367483, 3520863327], [1167603208, 451701299, 552079047, 638872359, 1664662461, 737349869, 142019693, 613367483], [1907871330, 1167603208, 451701299, 552079047, 3571977009, 1664662461, 737349869, 142019693]]
def twoB : Nat → Int := bt (List.drop (64 * 0) (pad4 [2]))
theorem twoW_ok : ((List.range 64).all fun i => gl4 twoW i == if i < 16 then wrd4 twoB i 4 else sg4 (gl4 twoW) i) = true := by kernel_rfl
theorem twoS_ok : ((List.range 64).all fun i => (List.range 8).all fun j => gl4 (twoS.getD (i + 1) []) j == rnd4 kf4 (gl4 twoW) i (gl4 (twoS.getD i [])) j) = true := by kernel_rfl
theorem twoS_0 : ((List.range 8).all fun j => hf4 j == gl4 (twoS.getD 0 []) j) = true := by kernel_rfl
theorem all_lt4 {n : Nat} {p : Nat → Bool} (h : (List.range n).all p = true) : ∀ i, i < n → p i = true := fun i hi => List.all_eq_true.1 h i (List.mem_range.2 hi)
theorem two_b0 : ob4 (Hs4 (pad4 [2]) (nb4 ([2] : List UInt8).length)) 0 = 219 := by
  have h1 : ∀ j, j < 64 → sch4 twoB 64 j = gl4 twoW j := fun j hj => sch4_lit (fun i hi => by simpa using all_lt4 twoW_ok i hi) 64 (Nat.le_refl _) j hj
  have h2 : ∀ j, j < 8 → rnds4 kf4 (sch4 twoB 64) hf4 64 j = gl4 (twoS.getD 64 []) j := fun j hj =>
    rnds4_lit h1 (fun j hj => by simpa using all_lt4 twoS_0 j hj) (fun i hi j hj => by simpa using all_lt4 (all_lt4 twoS_ok i hi) j hj) 64 (Nat.le_refl _) j hj
  show ob4 (prs4 hf4 twoB) 0 = _
  unfold ob4
  rw [show prs4 hf4 twoB (0 / 4) = ad4 (hf4 0) (rnds4 kf4 (sch4 twoB 64) hf4 64 0) from rfl, h2 0 (by omega)]
  kernel_rfl
theorem two_ne : hs4 [2] ≠ 0 := fun h => by
  have e := smb_hs4 [2]
  rw [h] at e
  have h1 : (smb4 [2])[0]? = some (bo4 (Hs4 (pad4 [2]) (nb4 ([2] : List UInt8).length)) 0) := rfl
  rw [e, lb_get (by decide)] at h1
  have h2 := bo_ob4 (Hs4 (pad4 [2]) (nb4 ([2] : List UInt8).length)) 0
  rw [two_b0, ← Option.some.inj h1] at h2
  exact absurd h2 (by decide)
end Go.Proofs.YtndnlbinnhdmbaaDoor

set_option linter.unusedSimpArgs false
set_option linter.unusedVariables false
namespace Go.Proofs.YtndnlbinnhdmbaaDoor
set_option maxHeartbeats 3000000
set_option maxRecDepth 100000
open Go.RowKit
attribute [local irreducible] wpList wpTr wpX
set_option linter.unusedSimpArgs false
attribute [local irreducible] hs4 sE sL sN lb
theorem Row.form {α : Type} {f : α → List Value} {ls : List α} {t : TypeId} {k : Nat} {w : World} {v : Value} (h : Row t k w v (ls.map f)) : ∃ A c, v = .slice A ls.length c := by
 obtain ⟨A, c, h1, _⟩ := RR.opf h.rr
 exact ⟨A, c, h1⟩
/-- a call that hands back a proof, its sums in a row of its own -/
def PRet (ss : List Nat) (th : Bool) (a x : Nat) (w w' : World) (e : Ending) : Prop := ∃ v, e = .returned (.agg (pfc v th a x)) ∧ SH [] w w' [.r 22 32 v (ss.map b32l)]
theorem pcall {f : FuncId} {args : Array Value} {F : List Nat} {w W : World} {H : List As} {ss : List Nat} {th : Bool} {a x : Nat} (hS : SH F w W H) (hc : Calls Tryd.prog f args W fun e W' => PRet ss th a x W W' e) (ht : H.all (SH.tyOk (.r 22 32 undef [])) = true) :
  Calls Tryd.prog f args W fun e W' => ∃ v, e = .returned (.agg (pfc v th a x)) ∧ SH F w W' (.r 22 32 v (ss.map b32l) :: H) := ncall hS hc (fun _ => ⟨rfl, ht⟩)

theorem prove_c {q : Prop} {T : TR} {u : Value} {k : Nat} (hzT : tsz T ≤ 1099511627775) (w : World) (hG : GT q w) (h : TA w T u) :
  Calls Tryd.prog 49 #[u, .agg (arrK .u8 32 (byt k))] w fun e w' => PRet (bsd T k 0) (endR (wayE T k 0)).2.2 (endR (wayE T k 0)).1 (endR (wayE T k 0)).2.1 w w' e := by
 have hS := SH.nil [] w
 go_enter Tryd.func49, Tryd.ntmps49
 go_upto_region 0 with fail
 refine RL hS ?_
 clear hS
 refine MN (z := arrK .u8 32 (byt k)) (t := 28) ?_
 intro p3_1
 refine MN (z := pfc (.slice none 0 0) false 0 0) (t := 69) ?_
 intro p4_2
 refine MZ fun W hS => ?_
 go_upto_region 1 with fail
 refine RL hS ?_
 clear hS
 refine MV ?_
 refine ML 1 ?_
 refine ME (V := fun v => .tuple #[v, .agg (lf (endR (wayE T k 0)).1 (endR (wayE T k 0)).2.1), .bool (endR (wayE T k 0)).2.2]) (fun W hS => ncall hS (beside_c (k := k) hzT W (GT_ext hG hS.ext) (TA.ext h hS.ext)) (fun _ => ⟨rfl, rfl⟩)) ?_
 intro so
 refine MFact (fun W hS => Row.form (ls := (bsd T k 0)) (f := b32l) (hS.row (i := 0) rfl)) ?_
 rintro ⟨A_3, c_3, rfl⟩
 refine MV ?_
 refine MV ?_
 refine MV ?_
 refine MW ?_ (v := .bool (endR (wayE T k 0)).2.2)
 refine MN (z := lf 0 0) (t := 30) ?_
 intro p6_4
 refine MV ?_
 refine MR 0 ?_ (hz := by rw [lf_size]; kernel_rfl) (hs := by first | rw [lf_size, lf_size] | rw [lf_size] | kernel_rfl) (h1 := lf_one)
 refine MW ?_ (v := .bool (endR (wayE T k 0)).2.2)
 refine MZ fun W hS => ?_
 go_upto_region 2 with fail
 refine RL hS ?_
 clear hS
 refine MV ?_
 refine MW ?_ (v := .bool (endR (wayE T k 0)).2.2)
 refine ML 0 ?_ (hs := by rw [lf_size]; kernel_rfl)
 refine MW ?_ (v := .agg (pfc (.slice A_3 (bsd T k 0).length c_3) (endR (wayE T k 0)).2.2 ((endR (wayE T k 0)).1) ((endR (wayE T k 0)).2.1))) (hv := by intro W; first | rfl | kernel_rfl)
 refine MR 2 ?_ (hz := by rw [pf_size]; kernel_rfl) (hs := by first | rw [pf_size, pf_size] | rw [pf_size] | kernel_rfl) (h1 := (pf_one rfl))
 refine MZ fun W hS => ?_
 go_wp2
 exact bodyPost_ret (res_row rfl rfl (hS.blk (i := 2) rfl) (by kernel_rfl) (by rw [pf_size]; kernel_rfl)) rfl ⟨_, rfl, hS.pick [1]⟩
theorem pto_c {ss : List Nat} {sv : Value} {th : Bool} {a x : Nat} (hn : ss.length ≤ 1000000) (w : World) (hp : RR 32 w sv (ss.map b32l)) :
  Calls Tryd.prog 38 #[.agg (pfc sv th a x)] w fun e w' => PRet ss th a x w w' e := by
 obtain ⟨Ap, cp, rfl, hlcp, HRp⟩ := RR.opf hp
 have hS := SH.nil [] w
 go_enter Tryd.func38, Tryd.ntmps38
 go_upto_region 0 with fail
 refine RL hS ?_
 clear hS
 refine MN (z := pfc (.slice Ap ss.length cp) th a x) (t := 66) ?_
 intro p1_1
 refine MN (z := pfc (.slice none 0 0) false 0 0) (t := 69) ?_
 intro p2_2
 refine MZ fun W hS => ?_
 go_upto_region 1 with fail
 refine RTp [1] (.q 1 (.q 2 (.q 4 (.q 5 (.q 6 (.q 7 (.q 8 (.q 9 (.q 10 (.q 11 (.q 12 (.e 0 (.e 3 (.q 13 (.e 14 .z))))))))))))))) hS ?_
 clear hS
 refine TV ?_
 refine TG 0 ?_ (v := .slice Ap ss.length cp) (hj := pf_s)
 refine TV ?_
 refine TG 0 ?_ (v := .bool th) (hj := pf_t)
 refine TV ?_
 refine TV ?_
 refine Tl 0 pf_k ?_
 refine TV ?_
 refine TV ?_
 refine Tl 0 pf_v ?_
 refine TW ?_ (v := .agg (lf a x)) (hv := by intro W; first | rfl | kernel_rfl)
 refine TE (fun _ h => h.pick [1]) ?_
 refine MB0 (t := 22) (n := 32) ?_
 intro v3_3
 refine TNp [2] [0] ?_
 refine TE (fun _ h => h.pick [2]) ?_
 refine MAR 0 (tS := 58) (bytes := 32) (es := []) (fs := (List.map b32l ss)) (fun W hS => (hp.ext hS.ext)) b32l_all (by first | omega | (simp only [List.length_append, List.length_map, List.length_take, List.length_drop, List.length_reverse, List.length_cons, List.length_nil, lb_length, dbl]; omega)) ?_
 intro v6_4
 refine MT (fun W hS => by rw [List.nil_append] at hS; exact hS) ?_
 refine MFact (fun W hS => Row.form (ls := ss) (f := b32l) (hS.row (i := 0) rfl)) ?_
 rintro ⟨A_5, c_5, rfl⟩
 refine TNp [0, 2] [1] ?_
 refine TW ?_ (v := .agg (pfc (.slice A_5 ss.length c_5) th a x)) (hv := by intro W; first | rfl | kernel_rfl)
 refine TE (fun _ h => h.pick [0, 2]) ?_
 refine MR 1 ?_ (hz := by rw [pf_size]; kernel_rfl) (hs := by first | rw [pf_size, pf_size] | rw [pf_size] | kernel_rfl) (h1 := (pf_one rfl))
 refine TNp [0, 2] [0, 1] ?_
 refine TZ (fun _ h => h.pick [0, 2]) fun W hS => ?_
 go_wp2
 exact bodyPost_ret (res_row rfl rfl (hS.blk (i := 1) rfl) (by kernel_rfl) (by rw [pf_size]; kernel_rfl)) rfl ⟨_, rfl, hS.pick [0]⟩
theorem take_minB {α : Type} (n : Nat) (l : List α) : l.take (min l.length n) = l.take n := by
 rcases Nat.le_total l.length n with h | h
 ·
  rw [Nat.min_eq_left h, List.take_of_length_le (Nat.le_refl _), List.take_of_length_le h]
 ·
  rw [Nat.min_eq_right h]
theorem tame_c {ss : List Nat} {sv : Value} {th : Bool} {a x : Nat} (w : World) (hp : RR 32 w sv (ss.map b32l)) :
  Calls Tryd.prog 37 #[.agg (pfc sv th a x)] w fun e w' => PRet (ss.take 260) th a x w w' e := by
 obtain ⟨Ap, cp, rfl, hlcp, HRp⟩ := RR.opf hp
 have hS := SH.nil [] w
 obtain ⟨u10, hu10, hR10⟩ := rr_head (m := min ss.length 260) hp (by rw [List.length_map]; omega) Tryd.underlying58 (by kernel_rfl)
 have hR11 : ∀ W, RR 32 W (.slice Ap ss.length cp) (ss.map b32l) → RR 32 W u10 ((ss.take 260).map b32l) := fun W h => by rw [← take_minB, List.map_take]; exact hR10 W h
 go_enter Tryd.func37, Tryd.ntmps37
 go_upto_region 0 with fail
 refine RL hS ?_
 clear hS
 refine MN (z := pfc (.slice Ap ss.length cp) th a x) (t := 66) ?_
 intro p1_1
 refine MN (z := pfc (.slice none 0 0) false 0 0) (t := 66) ?_
 intro p2_2
 refine MZ fun W hS => ?_
 go_upto_region 1 with fail
 refine RTp [1] (.q 1 (.q 2 (.q 3 (.q 4 (.q 5 (.q 6 (.q 7 (.q 9 (.q 10 (.q 11 (.q 12 (.e 0 (.e 8 (.q 13 (.e 14 .z))))))))))))))) hS ?_
 clear hS
 refine TV ?_
 refine TG 0 ?_ (v := .slice Ap ss.length cp) (hj := pf_s)
 refine TV ?_
 refine TG 0 ?_ (v := .slice Ap ss.length cp) (hj := pf_s)
 refine TV ?_
 refine TW ?_ (v := .int .i64 ((min ss.length 260 : Nat) : Int))
 refine TW ?_ (v := u10) (hv := fun _ => run_headV hu10 rfl rfl rfl)
 refine TV ?_
 refine TG 0 ?_ (v := .bool th) (hj := pf_t)
 refine TV ?_
 refine Tl 0 pf_e ?_ (hz := by first | kernel_rfl | (rw [lf_size]; kernel_rfl))
 refine TE (fun _ h => h.pick [1]) ?_
 refine MB0 (t := 22) (n := 32) ?_
 intro v3_3
 refine TNp [2] [0] ?_
 refine TE (fun _ h => h.pick [2]) ?_
 refine MAR 0 (tS := 58) (bytes := 32) (es := []) (fs := (List.map b32l (List.take 260 ss))) (fun W hS => (hR11 W (hp.ext hS.ext))) b32l_all (by first | omega | (simp only [List.length_append, List.length_map, List.length_take, List.length_drop, List.length_reverse, List.length_cons, List.length_nil, lb_length, dbl]; omega)) ?_
 intro v11_4
 refine MT (fun W hS => by rw [List.nil_append] at hS; exact hS) ?_
 refine MFact (fun W hS => Row.form (ls := List.take 260 ss) (f := b32l) (hS.row (i := 0) rfl)) ?_
 rintro ⟨A_5, c_5, rfl⟩
 refine TNp [0, 2] [1] ?_
 refine TW ?_ (v := .agg (pfc (.slice A_5 (List.take 260 ss).length c_5) th a x)) (hv := by intro W; first | rfl | kernel_rfl)
 refine TE (fun _ h => h.pick [0, 2]) ?_
 refine MR 1 ?_ (hz := by rw [pf_size]; kernel_rfl) (hs := by first | rw [pf_size, pf_size] | rw [pf_size] | kernel_rfl) (h1 := (pf_one rfl))
 refine TNp [0, 2] [0, 1] ?_
 refine TZ (fun _ h => h.pick [0, 2]) fun W hS => ?_
 go_wp2
 exact bodyPost_ret (res_row rfl rfl (hS.blk (i := 1) rfl) (by kernel_rfl) (by rw [pf_size]; kernel_rfl)) rfl ⟨_, rfl, hS.pick [0]⟩
theorem pfrom_c {A : Option Addr} {n c : Nat} (th : Bool) (a x : Nat) (w : World) :
  Calls Tryd.prog 46 #[.agg (pfc (.slice A n c) th a x)] w fun e w' => Ret (.agg (pfc (.slice A n c) th a x)) w w' e := by
 have hS := SH.nil [] w
 go_enter Tryd.func46, Tryd.ntmps46
 go_upto_region 0 with fail
 refine RL hS ?_
 clear hS
 refine MN (z := pfc (.slice A n c) th a x) (t := 69) ?_
 intro p1_1
 refine MN (z := pfc (.slice none 0 0) false 0 0) (t := 66) ?_
 intro p2_2
 refine MZ fun W hS => ?_
 go_upto_region 1 with fail
 refine RL hS ?_
 clear hS
 refine MV ?_
 refine MG 1 ?_ (v := (.slice A n c)) (hj := pf_s)
 refine MV ?_
 refine MG 1 ?_ (v := .bool th) (hj := pf_t)
 refine MV ?_
 refine MV ?_
 refine Ml 1 pf_k ?_
 refine MV ?_
 refine MV ?_
 refine Ml 1 pf_v ?_
 refine MW ?_ (v := .agg (lf a x)) (hv := by intro W; first | rfl | kernel_rfl)
 refine MW ?_ (v := .agg (pfc (.slice A n c) th a x)) (hv := by intro W; first | rfl | kernel_rfl)
 refine MR 0 ?_ (hz := by rw [pf_size]; kernel_rfl) (hs := by first | rw [pf_size, pf_size] | rw [pf_size] | kernel_rfl) (h1 := (pf_one rfl))
 refine MZ fun W hS => ?_
 go_wp2
 exact bodyPost_ret (res_row rfl rfl (hS.blk (i := 0) rfl) (by kernel_rfl) (by rw [pf_size]; kernel_rfl)) rfl ⟨rfl, hS.ext⟩
end Go.Proofs.YtndnlbinnhdmbaaDoor
