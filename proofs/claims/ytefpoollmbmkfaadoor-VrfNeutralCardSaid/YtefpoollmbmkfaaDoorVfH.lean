/- custumallaw09: proofs, VrfProves. Conditions: the cells of the variables hold their numbers. -/
import Derived.Test.YtefpoollmbmkfaaDoorGc
import Derived.Test.YtefpoollmbmkfaaDoorVc
import Derived.Test.YtefpoollmbmkfaaDoorSgD
import Derived.Test.YtefpoollmbmkfaaDoorVw
set_option linter.unusedSimpArgs false
set_option linter.unusedVariables false
namespace Go.Proofs.YtefpoollmbmkfaaDoor
set_option maxHeartbeats 2000000
set_option maxRecDepth 100000
open Go.RowKit
attribute [local irreducible] wpList
variable {kn : Kn}
open Sc (LL i6)
attribute [local irreducible] hs
def S1 (S : Nat) (L : List UInt8) : Nat × Nat := match vpt (kP S) L with
  | none => (0, 15)
  | some c => (vPr S (o6 (kP S) L c), 0)
def vsm (P : Nat) : Nat × Nat := if K0 (pG P) = true then (q8m P, 0) else (0, 17)
theorem D7 {S c : Nat} {L : List UInt8} (h : vpt (kP S) L = some c) : S1 S L = (vPr S (o6 (kP S) L c), 0) := by unfold S1; rw [h]
theorem q5p {S : Nat} {L : List UInt8} (h : vpt (kP S) L = none) : S1 S L = (0, 15) := by unfold S1; rw [h]
theorem q8r {V c : Nat} {L : List UInt8} (h : r3 V L c = true) : p5 (o6 V L c) := K8 (y6y (candOk_iff.1 h).1) 8
theorem j4x (S : Nat) (L : List UInt8) : B80 (S1 S L).1 := by
  unfold B80
  cases h : vpt (kP S) L with
  | none => rw [q5p h]; decide +kernel
  | some c => rw [D7 h]; rw [(R9 (q8r (q3x h).2.1)).2.2]; exact Nat.lt_trans (j6t _ _) Q0
theorem j0x (hd : kn.d) (hb : kn.b) (hc : kn.c) {X E S : Nat} {L : List UInt8} (hX : X = (S1 S L).1) (hE : E = (S1 S L).2) (v : Value) (hL : L.length ≤ 1099511627776) (w : World) (hG : GA kn w) (hs : Sl w v L) :
    Calls Tryd.prog 23 #[.agg (q7 .u8 32 (j0 S)), v] w fun e w' => h9 (.tuple #[.agg (q7 .u8 80 (j0 X)), .int .i64 (E : Int)]) w w' e := by
  subst hX hE
  cases h : vpt (kP S) L with
  | none => rw [q5p h]; exact j4r hd hb hc S v L hL h w hG hs
  | some c => rw [D7 h]; exact j4q hd hb hc S c v L hL h rfl w hG hs
theorem E0 (hd : kn.d) (hb : kn.b) (hc : kn.c) {X E V P : Nat} {L : List UInt8} (hX : X = (J3 V L P).1) (hE : E = (J3 V L P).2) (hV : V < 2 ^ 256) (hP : B80 P) (v : Value) (hL : L.length ≤ 1099511627776) (w : World) (hG : GA kn w) (hs : Sl w v L) :
    Calls Tryd.prog 26 #[.agg (q7 .u8 32 (j0 V)), v, .agg (q7 .u8 80 (j0 P))] w fun e w' => h9 (.tuple #[.agg (q7 .u8 64 (j0 X)), .int .i64 (E : Int)]) w w' e := by
  subst hX hE; exact j4w hd hb hc rfl hV hP v hL w hG hs
theorem y2x {V P c : Nat} {L : List UInt8} (h1 : K0 V = true) (h2 : ¬ pm (M6 V) 8 = p0) (h3 : K0 (pG P) = true) (h4 : pN P < LL) (h5 : vpt V L = some c) : (q0m V P (o6 V L c) → J3 V L P = (q8m P, 0)) ∧ (¬ q0m V P (o6 V L c) → J3 V L P = (0, 17)) := by
  have e : J3 V L P = if chk V P (o6 V L c) = pC P then (q8m P, 0) else (0, 17) := by
    unfold J3
    rw [if_neg (by rintro (h | h); rw [h1] at h; cases h; exact h2 h), if_neg (by rintro (h | h); rw [h3] at h; cases h; exact absurd h (Nat.not_le.2 h4)), h5]
  rw [e]
  exact ⟨fun h => if_pos h, fun h => if_neg h⟩
theorem g7q : (S1 1 [97]).2 = 0 := by rw [D7 vpa]
theorem pf_key : K0 (pG (S1 1 [97]).1) = true ∧ pN (S1 1 [97]).1 < LL := by
  rw [D7 vpa]
  have hon := q8r (q3x vpa).2.1
  obtain ⟨e1, -, e3⟩ := R9 (S := 1) hon
  exact ⟨by rw [e1]; exact (N0 (K8 hon _)).1, by rw [e3]; exact j6t _ _⟩
theorem g7r : (J3 (kP 1) [97] (S1 1 [97]).1).2 = 0 := by
  have h := (y2x key1.1 key1.2 pf_key.1 pf_key.2 vpa).1
  rw [D7 vpa] at h ⊢
  rw [h g0z]
theorem g7s : (J3 (kP 1) [98] (S1 1 [97]).1).2 = 17 := by
  have h := (y2x key1.1 key1.2 pf_key.1 pf_key.2 vpb).2
  rw [D7 vpa] at h ⊢
  rw [h g1a]
attribute [local irreducible] S1 J3

theorem q4d (hd : kn.d) (hb : kn.b) (hc : kn.c) :
  ∀ w, GA kn w → Calls Tryd.prog 25 #[] w fun e w' => h9 (.bool true) w w' e := by
 obtain ⟨U1, hU1⟩ := z8 ((S1 1 [97]).1)
 have eU1 : B80 U1 := by rw [hU1]; exact j4x _ _
 have HU1 := Lib.hid hU1
 clear hU1
 obtain ⟨U2, hU2⟩ := z8 ((S1 1 [97]).2)
 have HU2 := Lib.hid hU2
 clear hU2
 have hz0 : (U2 : Int) = 0 := by rw [HU2.out]; exact congrArg Nat.cast g7q
 obtain ⟨U3, hU3⟩ := z8 (kN 1)
 have bU3 : U3 < 2 ^ 256 := by rw [hU3]; exact y9v _
 have HU3 := Lib.hid hU3
 clear hU3
 obtain ⟨U4, hU4⟩ := z8 (kD 1)
 have bU4 : U4 < 2 ^ 256 := by rw [hU4]; exact y9w _
 have HU4 := Lib.hid hU4
 clear hU4
 obtain ⟨U5, hU5⟩ := z8 (kP 1)
 have bU5 : U5 < 2 ^ 256 := by rw [hU5]; exact y9x _
 have HU5 := Lib.hid hU5
 clear hU5
 obtain ⟨U6, hU6⟩ := z8 ((J3 U5 [97] U1).1)
 have HU6 := Lib.hid hU6
 clear hU6
 obtain ⟨U7, hU7⟩ := z8 ((J3 U5 [97] U1).2)
 have HU7 := Lib.hid hU7
 clear hU7
 have hz1 : (U7 : Int) = 0 := by rw [HU7.out, HU5.out, HU1.out]; exact congrArg Nat.cast g7r
 obtain ⟨U8, hU8⟩ := z8 ((J3 U5 [98] U1).1)
 have HU8 := Lib.hid hU8
 clear hU8
 obtain ⟨U9, hU9⟩ := z8 ((J3 U5 [98] U1).2)
 have HU9 := Lib.hid hU9
 clear hU9
 have hz2 : (U9 : Int) = 17 := by rw [HU9.out, HU5.out, HU1.out]; exact congrArg Nat.cast g7s
 intro w hG
 have off0 : Off [] w w := Off.refl _ _
 go_enter Tryd.func25, Tryd.ntmps25
 go_upto_region 1 with fail
 refine wp_region_lit ?_
 refine Lw ?_ (v := .agg (q7 .u8 32 (j0 1))) (hv := by kernel_rfl)
 refine LnA ?_ (z := q7 .u8 32 (j0 0)) (t := 22) (k := .u8) (n := 32) (f := j0 1)
 intro V8 W2 s8 hO h_
 replace off0 := off0.o hO
 have k_t1 := h_
 clear hO h_ s8
 refine q5 ?_
 go_upto_region 2 with fail
 refine wp_region_lit ?_
 refine M0 ?_ k_t1
 refine E3 ?_ (z := #[.int .u8 97]) (t := 5) (n := 1) (c := 1)
 intro g4l W3 q0l hO h_
 have q5q : Value.ownBlock (.slice (some ⟨p12_3, 0, none⟩) 1 1) ≠ some V8 := obn k_t1 q0l
 have j0y : Fr (Value.ownBlock (.slice (some ⟨p12_3, 0, none⟩) 1 1)) w.heap.size [] := frn off0 q0l
 replace k_t1 := k_t1.o hO
 replace off0 := off0.o hO
 have j0z : Own W3 (.slice (some ⟨p12_3, 0, none⟩) 1 1) [97] := d8 h_ (by rfl) (by show 1 ≤ maxLen; decide)
 clear hO h_ q0l
 refine q3o j0z rfl (by rfl) rfl rfl ?_
 (try simp only [Act.put, mA, mB, mC])
 intro W4 hO g1b
 replace k_t1 := z6 k_t1 hO (R5 q5q)
 replace off0 := off0.step hO (io j0y)
 clear j0z j0y q5q
 clear hO
 refine Lr ?_ (j0x hd hb hc HU1.out HU2.out (.slice (some ⟨p12_3, 0, none⟩) 1 1) (by first | omega | (simp only [List.length_append, List.length_take, List.length_cons, List.length_nil, g7]; omega)) W4 (y7 hG off0.ext) g1b)
 intro W5 hO
 replace k_t1 := k_t1.o hO
 replace off0 := off0.o hO
 clear hO
 refine Lv ?_
 refine Lv ?_
 refine Lv ?_
 refine LnA ?_ (z := q7 .u8 80 (j0 0)) (t := 45) (k := .u8) (n := 80) (f := j0 U1)
 intro g4r W7 z7 hO h_
 replace k_t1 := k_t1.o hO
 replace off0 := off0.o hO
 have k_t2 := h_
 clear hO h_ z7
 refine Lv ?_
 refine q5 ?_
 go_upto_region 3 with fail
 refine wp_region_lit ?_
 refine M0 ?_ k_t1
 refine Lr ?_ (q1e hd hb HU3.out HU4.out HU5.out W7 (y7 hG off0.ext))
 intro W8 hO
 replace k_t2 := k_t2.o hO
 replace off0 := off0.o hO
 clear hO
 refine Lw ?_ (v := .agg (q7 .u8 32 (j0 U5))) (hv := by kernel_rfl)
 refine LnA ?_ (z := q7 .u8 32 (j0 0)) (t := 22) (k := .u8) (n := 32) (f := j0 U5)
 intro g7t W10 c9 hO h_
 replace k_t2 := k_t2.o hO
 replace off0 := off0.o hO
 have k_t4 := h_
 clear hO h_ c9
 refine q5 ?_
 go_upto_region 4 with fail
 refine wp_region_lit ?_
 refine M0 ?_ k_t4
 refine E3 ?_ (z := #[.int .u8 97]) (t := 5) (n := 1) (c := 1)
 intro g0q W11 q5j hO h_
 have q5r : Value.ownBlock (.slice (some ⟨p22_11, 0, none⟩) 1 1) ≠ some g4r := obn k_t2 q5j
 have q5s : Value.ownBlock (.slice (some ⟨p22_11, 0, none⟩) 1 1) ≠ some g7t := obn k_t4 q5j
 have j1a : Fr (Value.ownBlock (.slice (some ⟨p22_11, 0, none⟩) 1 1)) w.heap.size [] := frn off0 q5j
 replace k_t2 := k_t2.o hO
 replace k_t4 := k_t4.o hO
 replace off0 := off0.o hO
 have ow_s22 : Own W11 (.slice (some ⟨p22_11, 0, none⟩) 1 1) [97] := d8 h_ (by rfl) (by show 1 ≤ maxLen; decide)
 clear hO h_ q5j
 refine q3o ow_s22 rfl (by rfl) rfl rfl ?_
 (try simp only [Act.put, mA, mB, mC])
 intro W12 hO g1c
 replace k_t2 := z6 k_t2 hO (R5 q5r)
 replace k_t4 := z6 k_t4 hO (R5 q5s)
 replace off0 := off0.step hO (io j1a)
 clear ow_s22 j1a q5r q5s
 clear hO
 refine M0 ?_ k_t2
 refine Lr ?_ (E0 hd hb hc HU6.out HU7.out bU5 eU1 (.slice (some ⟨p22_11, 0, none⟩) 1 1) (by first | omega | (simp only [List.length_append, List.length_take, List.length_cons, List.length_nil, g7]; omega)) W12 (y7 hG off0.ext) g1c)
 intro W13 hO
 replace k_t2 := k_t2.o hO
 replace k_t4 := k_t4.o hO
 replace off0 := off0.o hO
 clear hO
 refine Lv ?_
 refine Lv ?_
 refine Lv ?_
 refine LnA ?_ (z := q7 .u8 64 (j0 0)) (t := 30) (k := .u8) (n := 64) (f := j0 U6)
 intro g9l W15 d6 hO h_
 replace k_t2 := k_t2.o hO
 replace k_t4 := k_t4.o hO
 replace off0 := off0.o hO
 clear hO h_ d6
 refine Lv ?_
 refine q5 ?_
 go_upto_region 5 with fail
 refine wp_region_lit ?_
 refine M0 ?_ k_t4
 refine E3 ?_ (z := #[.int .u8 98]) (t := 5) (n := 1) (c := 1)
 intro g7u W16 j1b hO h_
 have q5t : Value.ownBlock (.slice (some ⟨p30_16, 0, none⟩) 1 1) ≠ some g4r := obn k_t2 j1b
 have j1c : Fr (Value.ownBlock (.slice (some ⟨p30_16, 0, none⟩) 1 1)) w.heap.size [] := frn off0 j1b
 replace k_t2 := k_t2.o hO
 replace off0 := off0.o hO
 have j1d : Own W16 (.slice (some ⟨p30_16, 0, none⟩) 1 1) [98] := d8 h_ (by rfl) (by show 1 ≤ maxLen; decide)
 clear hO h_ j1b
 refine q3o j1d rfl (by rfl) rfl rfl ?_
 (try simp only [Act.put, mA, mB, mC])
 intro W17 hO g1d
 replace k_t2 := z6 k_t2 hO (R5 q5t)
 replace off0 := off0.step hO (io j1c)
 clear j1d j1c q5t
 clear hO
 refine M0 ?_ k_t2
 refine Lr ?_ (E0 hd hb hc HU8.out HU9.out bU5 eU1 (.slice (some ⟨p30_16, 0, none⟩) 1 1) (by first | omega | (simp only [List.length_append, List.length_take, List.length_cons, List.length_nil, g7]; omega)) W17 (y7 hG off0.ext) g1d)
 intro W18 hO
 replace off0 := off0.o hO
 clear hO
 refine Lv ?_
 refine Lv ?_
 refine Lv ?_
 refine LnA ?_ (z := q7 .u8 64 (j0 0)) (t := 30) (k := .u8) (n := 64) (f := j0 U8)
 intro g9m W20 u6 hO h_
 replace off0 := off0.o hO
 clear hO h_ u6
 refine Lv ?_
 refine q5 ?_
 go_upto_region 6 with fail
 refine wp_region_lit ?_
 refine Lv ?_
 refine Lw ?_ (v := .bool true) (hv := by first | (go_simp; done) | (go_simp; simp only [hz0]; done) | (go_simp; simp only [hz0]; decide))
 refine Lw ?_ (v := .bool true)
 refine Lv ?_
 refine Lw ?_ (v := .bool true) (hv := by first | (go_simp; done) | (go_simp; simp only [hz1]; done) | (go_simp; simp only [hz1]; decide))
 refine Lw ?_ (v := .bool true)
 refine Lw ?_ (v := .bool true)
 refine Lv ?_
 refine Lw ?_ (v := .bool true) (hv := by first | (go_simp; done) | (go_simp; simp only [hz2]; done) | (go_simp; simp only [hz2]; decide))
 refine Lw ?_ (v := .bool true)
 refine Lw ?_ (v := .bool true)
 refine q5 ?_
 go_wp2
 exact bodyPost_ret (v := .bool true) (by simp only [results, Tryd.results25]; go_simp) rfl ⟨rfl, off0.ext⟩
end Go.Proofs.YtefpoollmbmkfaaDoor
