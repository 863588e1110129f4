/- custumallaw09: proofs, VrfProves. Conditions: the cells of the variables hold their numbers. -/
import Derived.Test.YtefpoollmbmkfaaDoorGc
import Derived.Test.YtefpoollmbmkfaaDoorVc
import Derived.Test.YtefpoollmbmkfaaDoorSgD
import Derived.Test.YtefpoollmbmkfaaDoorVw
set_option linter.unusedSimpArgs false
set_option linter.unusedVariables false
namespace Go.Proofs.YtefpoollmbmkfaaDoor
set_option maxHeartbeats 2000000
set_option maxRecDepth 100000
open Go.RowKit
attribute [local irreducible] wpList
variable {kn : Kn}
open Sc (LL e9)
attribute [local irreducible] hs
def H2 (S : Nat) (L : List UInt8) : Nat × Nat := match vpt (kP S) L with
  | none => (0, 15)
  | some c => (vPr S (a6 (kP S) L c), 0)
def vsm (P : Nat) : Nat × Nat := if G9 (pG P) = true then (q8i P, 0) else (0, 17)
theorem G7 {S c : Nat} {L : List UInt8} (h : vpt (kP S) L = some c) : H2 S L = (vPr S (a6 (kP S) L c), 0) := by unfold H2; rw [h]
theorem q0f {S : Nat} {L : List UInt8} (h : vpt (kP S) L = none) : H2 S L = (0, 15) := by unfold H2; rw [h]
theorem q5g {V c : Nat} {L : List UInt8} (h : r9 V L c = true) : s8 (a6 V L c) := J4 (q4j (candOk_iff.1 h).1) 8
theorem y4m (S : Nat) (L : List UInt8) : B80 (H2 S L).1 := by
  unfold B80
  cases h : vpt (kP S) L with
  | none => rw [q0f h]; decide +kernel
  | some c => rw [G7 h]; rw [(I3 (q5g (q1x h).2.1)).2.2]; exact Nat.lt_trans (j2n _ _) Y7
theorem q5h (hd : kn.d) (hb : kn.b) (hc : kn.c) {X E S : Nat} {L : List UInt8} (hX : X = (H2 S L).1) (hE : E = (H2 S L).2) (v : Value) (hL : L.length ≤ 1099511627776) (w : World) (hG : GA kn w) (hs : Sl w v L) :
    Calls Tryd.prog 23 #[.agg (q7 .u8 32 (j0 S)), v] w fun e w' => m7 (.tuple #[.agg (q7 .u8 80 (j0 X)), .int .i64 (E : Int)]) w w' e := by
  subst hX hE
  cases h : vpt (kP S) L with
  | none => rw [q0f h]; exact j6n hd hb hc S v L hL h w hG hs
  | some c => rw [G7 h]; exact j6m hd hb hc S c v L hL h rfl w hG hs
theorem q5i (hd : kn.d) (hb : kn.b) (hc : kn.c) {X E V P : Nat} {L : List UInt8} (hX : X = (C5 V L P).1) (hE : E = (C5 V L P).2) (hV : V < 2 ^ 256) (hP : B80 P) (v : Value) (hL : L.length ≤ 1099511627776) (w : World) (hG : GA kn w) (hs : Sl w v L) :
    Calls Tryd.prog 26 #[.agg (q7 .u8 32 (j0 V)), v, .agg (q7 .u8 80 (j0 P))] w fun e w' => m7 (.tuple #[.agg (q7 .u8 64 (j0 X)), .int .i64 (E : Int)]) w w' e := by
  subst hX hE; exact j6s hd hb hc rfl hV hP v hL w hG hs
theorem j6t (hc : kn.c) {X E P : Nat} (hX : X = (vsm P).1) (hE : E = (vsm P).2) (w : World) (hG : GA kn w) :
    Calls Tryd.prog 27 #[.agg (q7 .u8 80 (j0 P))] w fun e w' => m7 (.tuple #[.agg (q7 .u8 64 (j0 X)), .int .i64 (E : Int)]) w w' e := by
  subst hX hE
  unfold vsm
  cases h : G9 (pG P)
  · rw [if_neg (by decide)]; exact g2j hc h w hG
  · rw [if_pos rfl]; exact j1w hc h rfl w hG
theorem q8m {V P c : Nat} {L : List UInt8} (h1 : G9 V = true) (h2 : ¬ pm (B1 V) 8 = p0) (h3 : G9 (pG P) = true) (h4 : pN P < LL) (h5 : vpt V L = some c) : (q1z V P (a6 V L c) → C5 V L P = (q8i P, 0)) ∧ (¬ q1z V P (a6 V L c) → C5 V L P = (0, 17)) := by
  have e : C5 V L P = if chk V P (a6 V L c) = pC P then (q8i P, 0) else (0, 17) := by
    unfold C5
    rw [if_neg (by rintro (h | h); rw [h1] at h; cases h; exact h2 h), if_neg (by rintro (h | h); rw [h3] at h; cases h; exact absurd h (Nat.not_le.2 h4)), h5]
  rw [e]
  exact ⟨fun h => if_pos h, fun h => if_neg h⟩
theorem g9e : (H2 1 [97]).2 = 0 := by rw [G7 vpa]
theorem pf_key : G9 (pG (H2 1 [97]).1) = true ∧ pN (H2 1 [97]).1 < LL := by
  rw [G7 vpa]
  have hon := q5g (q1x vpa).2.1
  obtain ⟨e1, -, e3⟩ := I3 (S := 1) hon
  exact ⟨by rw [e1]; exact (Z8 (J4 hon _)).1, by rw [e3]; exact j2n _ _⟩
theorem g9f : (C5 (kP 1) [97] (H2 1 [97]).1).2 = 0 := by
  have h := (q8m key1.1 key1.2 pf_key.1 pf_key.2 vpa).1
  rw [G7 vpa] at h ⊢
  rw [h g2v]
theorem g9g : (C5 (kP 1) [98] (H2 1 [97]).1).2 = 17 := by
  have h := (q8m key1.1 key1.2 pf_key.1 pf_key.2 vpb).2
  rw [G7 vpa] at h ⊢
  rw [h g2w]
attribute [local irreducible] H2 C5

theorem q9z (hd : kn.d) (hb : kn.b) (hc : kn.c) :
  ∀ w, GA kn w → Calls Tryd.prog 25 #[] w fun e w' => m7 (.bool true) w w' e := by
 obtain ⟨U1, hU1⟩ := z8 ((H2 1 [97]).1)
 have eU1 : B80 U1 := by rw [hU1]; exact y4m _ _
 have HU1 := Lib.hid hU1
 clear hU1
 obtain ⟨U2, hU2⟩ := z8 ((H2 1 [97]).2)
 have HU2 := Lib.hid hU2
 clear hU2
 have hz0 : (U2 : Int) = 0 := by rw [HU2.out]; exact congrArg Nat.cast g9e
 obtain ⟨U3, hU3⟩ := z8 (kN 1)
 have bU3 : U3 < 2 ^ 256 := by rw [hU3]; exact y3y _
 have HU3 := Lib.hid hU3
 clear hU3
 obtain ⟨U4, hU4⟩ := z8 (kD 1)
 have bU4 : U4 < 2 ^ 256 := by rw [hU4]; exact y3z _
 have HU4 := Lib.hid hU4
 clear hU4
 obtain ⟨U5, hU5⟩ := z8 (kP 1)
 have bU5 : U5 < 2 ^ 256 := by rw [hU5]; exact y4a _
 have HU5 := Lib.hid hU5
 clear hU5
 obtain ⟨U6, hU6⟩ := z8 ((C5 U5 [97] U1).1)
 have HU6 := Lib.hid hU6
 clear hU6
 obtain ⟨U7, hU7⟩ := z8 ((C5 U5 [97] U1).2)
 have HU7 := Lib.hid hU7
 clear hU7
 have hz1 : (U7 : Int) = 0 := by rw [HU7.out, HU5.out, HU1.out]; exact congrArg Nat.cast g9f
 obtain ⟨U8, hU8⟩ := z8 ((C5 U5 [98] U1).1)
 have HU8 := Lib.hid hU8
 clear hU8
 obtain ⟨U9, hU9⟩ := z8 ((C5 U5 [98] U1).2)
 have HU9 := Lib.hid hU9
 clear hU9
 have hz2 : (U9 : Int) = 17 := by rw [HU9.out, HU5.out, HU1.out]; exact congrArg Nat.cast g9g
 intro w hG
 have off0 : Off [] w w := Off.refl _ _
 go_enter Tryd.func25, Tryd.ntmps25
 go_upto_region 1 with fail
 refine wp_region_lit ?_
 refine Lw ?_ (v := .agg (q7 .u8 32 (j0 1))) (hv := by kernel_rfl)
 refine LnA ?_ (z := q7 .u8 32 (j0 0)) (t := 22) (k := .u8) (n := 32) (f := j0 1)
 intro b7 W2 t8 hO h_
 replace off0 := off0.o hO
 have k_t1 := h_
 clear hO h_ t8
 refine q5 ?_
 go_upto_region 2 with fail
 refine wp_region_lit ?_
 refine B9 ?_ k_t1
 refine I4 ?_ (z := #[.int .u8 97]) (t := 5) (n := 1) (c := 1)
 intro T5 W3 q1w hO h_
 have q6v : Value.ownBlock (.slice (some ⟨T5, 0, none⟩) 1 1) ≠ some b7 := obn k_t1 q1w
 have j2o : Fr (Value.ownBlock (.slice (some ⟨T5, 0, none⟩) 1 1)) w.heap.size [] := frn off0 q1w
 replace k_t1 := k_t1.o hO
 replace off0 := off0.o hO
 have j2p : Own W3 (.slice (some ⟨T5, 0, none⟩) 1 1) [97] := b5 h_ (by rfl) (by show 1 ≤ maxLen; decide)
 clear hO h_ q1w
 refine q4s j2p rfl (by rfl) rfl rfl ?_
 (try simp only [Act.put, mA, mB, mC])
 intro W4 hO g2x
 replace k_t1 := z7 k_t1 hO (nmo q6v)
 replace off0 := off0.step hO (io j2o)
 clear j2p j2o q6v
 clear hO
 refine Lr ?_ (q5h hd hb hc HU1.out HU2.out (.slice (some ⟨T5, 0, none⟩) 1 1) (by first | omega | (simp only [List.length_append, List.length_take, List.length_cons, List.length_nil, g7]; omega)) W4 (y7 hG off0.ext) g2x)
 intro W5 hO
 replace k_t1 := k_t1.o hO
 replace off0 := off0.o hO
 clear hO
 refine Lv ?_
 refine Lv ?_
 refine Lv ?_
 refine LnA ?_ (z := q7 .u8 80 (j0 0)) (t := 45) (k := .u8) (n := 80) (f := j0 U1)
 intro g6n W7 z4 hO h_
 replace k_t1 := k_t1.o hO
 replace off0 := off0.o hO
 have k_t2 := h_
 clear hO h_ z4
 refine Lv ?_
 refine q5 ?_
 go_upto_region 3 with fail
 refine wp_region_lit ?_
 refine B9 ?_ k_t1
 refine Lr ?_ (q0c hd hb HU3.out HU4.out HU5.out W7 (y7 hG off0.ext))
 intro W8 hO
 replace k_t2 := k_t2.o hO
 replace off0 := off0.o hO
 clear hO
 refine Lw ?_ (v := .agg (q7 .u8 32 (j0 U5))) (hv := by kernel_rfl)
 refine LnA ?_ (z := q7 .u8 32 (j0 0)) (t := 22) (k := .u8) (n := 32) (f := j0 U5)
 intro g9h W10 a7 hO h_
 replace k_t2 := k_t2.o hO
 replace off0 := off0.o hO
 have k_t4 := h_
 clear hO h_ a7
 refine q5 ?_
 go_upto_region 4 with fail
 refine wp_region_lit ?_
 refine B9 ?_ k_t4
 refine I4 ?_ (z := #[.int .u8 97]) (t := 5) (n := 1) (c := 1)
 intro O2 W11 q6o hO h_
 have q6w : Value.ownBlock (.slice (some ⟨O2, 0, none⟩) 1 1) ≠ some g6n := obn k_t2 q6o
 have q6x : Value.ownBlock (.slice (some ⟨O2, 0, none⟩) 1 1) ≠ some g9h := obn k_t4 q6o
 have j2q : Fr (Value.ownBlock (.slice (some ⟨O2, 0, none⟩) 1 1)) w.heap.size [] := frn off0 q6o
 replace k_t2 := k_t2.o hO
 replace k_t4 := k_t4.o hO
 replace off0 := off0.o hO
 have ow_s22 : Own W11 (.slice (some ⟨O2, 0, none⟩) 1 1) [97] := b5 h_ (by rfl) (by show 1 ≤ maxLen; decide)
 clear hO h_ q6o
 refine q4s ow_s22 rfl (by rfl) rfl rfl ?_
 (try simp only [Act.put, mA, mB, mC])
 intro W12 hO g2y
 replace k_t2 := z7 k_t2 hO (nmo q6w)
 replace k_t4 := z7 k_t4 hO (nmo q6x)
 replace off0 := off0.step hO (io j2q)
 clear ow_s22 j2q q6w q6x
 clear hO
 refine B9 ?_ k_t2
 refine Lr ?_ (q5i hd hb hc HU6.out HU7.out bU5 eU1 (.slice (some ⟨O2, 0, none⟩) 1 1) (by first | omega | (simp only [List.length_append, List.length_take, List.length_cons, List.length_nil, g7]; omega)) W12 (y7 hG off0.ext) g2y)
 intro W13 hO
 replace k_t2 := k_t2.o hO
 replace k_t4 := k_t4.o hO
 replace off0 := off0.o hO
 clear hO
 refine Lv ?_
 refine Lv ?_
 refine Lv ?_
 refine LnA ?_ (z := q7 .u8 64 (j0 0)) (t := 30) (k := .u8) (n := 64) (f := j0 U6)
 intro x0w W15 h9 hO h_
 replace k_t2 := k_t2.o hO
 replace k_t4 := k_t4.o hO
 replace off0 := off0.o hO
 clear hO h_ h9
 refine Lv ?_
 refine q5 ?_
 go_upto_region 5 with fail
 refine wp_region_lit ?_
 refine B9 ?_ k_t4
 refine I4 ?_ (z := #[.int .u8 98]) (t := 5) (n := 1) (c := 1)
 intro q8n W16 j2r hO h_
 have q6y : Value.ownBlock (.slice (some ⟨q8n, 0, none⟩) 1 1) ≠ some g6n := obn k_t2 j2r
 have j2s : Fr (Value.ownBlock (.slice (some ⟨q8n, 0, none⟩) 1 1)) w.heap.size [] := frn off0 j2r
 replace k_t2 := k_t2.o hO
 replace off0 := off0.o hO
 have j2t : Own W16 (.slice (some ⟨q8n, 0, none⟩) 1 1) [98] := b5 h_ (by rfl) (by show 1 ≤ maxLen; decide)
 clear hO h_ j2r
 refine q4s j2t rfl (by rfl) rfl rfl ?_
 (try simp only [Act.put, mA, mB, mC])
 intro W17 hO g2z
 replace k_t2 := z7 k_t2 hO (nmo q6y)
 replace off0 := off0.step hO (io j2s)
 clear j2t j2s q6y
 clear hO
 refine B9 ?_ k_t2
 refine Lr ?_ (q5i hd hb hc HU8.out HU9.out bU5 eU1 (.slice (some ⟨q8n, 0, none⟩) 1 1) (by first | omega | (simp only [List.length_append, List.length_take, List.length_cons, List.length_nil, g7]; omega)) W17 (y7 hG off0.ext) g2z)
 intro W18 hO
 replace off0 := off0.o hO
 clear hO
 refine Lv ?_
 refine Lv ?_
 refine Lv ?_
 refine LnA ?_ (z := q7 .u8 64 (j0 0)) (t := 30) (k := .u8) (n := 64) (f := j0 U8)
 intro x0x W20 u9 hO h_
 replace off0 := off0.o hO
 clear hO h_ u9
 refine Lv ?_
 refine q5 ?_
 go_upto_region 6 with fail
 refine wp_region_lit ?_
 refine Lv ?_
 refine Lw ?_ (v := .bool true) (hv := by first | (go_simp; done) | (go_simp; simp only [hz0]; done) | (go_simp; simp only [hz0]; decide))
 refine Lw ?_ (v := .bool true)
 refine Lv ?_
 refine Lw ?_ (v := .bool true) (hv := by first | (go_simp; done) | (go_simp; simp only [hz1]; done) | (go_simp; simp only [hz1]; decide))
 refine Lw ?_ (v := .bool true)
 refine Lw ?_ (v := .bool true)
 refine Lv ?_
 refine Lw ?_ (v := .bool true) (hv := by first | (go_simp; done) | (go_simp; simp only [hz2]; done) | (go_simp; simp only [hz2]; decide))
 refine Lw ?_ (v := .bool true)
 refine Lw ?_ (v := .bool true)
 refine q5 ?_
 go_wp2
 exact bodyPost_ret (v := .bool true) (by simp only [results, Tryd.results25]; go_simp) rfl ⟨rfl, off0.ext⟩
end Go.Proofs.YtefpoollmbmkfaaDoor
