/- custumallaw09: proofs, VrfProves. Conditions: the cells of the variables hold their numbers. -/
import Derived.Test.YtefpoollmbmkfaaDoorGc
import Derived.Test.YtefpoollmbmkfaaDoorVc
import Derived.Test.YtefpoollmbmkfaaDoorSgD
import Derived.Test.YtefpoollmbmkfaaDoorVw
set_option linter.unusedSimpArgs false
set_option linter.unusedVariables false
namespace Go.Proofs.YtefpoollmbmkfaaDoor
set_option maxHeartbeats 2000000
set_option maxRecDepth 100000
open Go.RowKit
attribute [local irreducible] wpList
variable {kn : Kn}
open Sc (LL J0p)
attribute [local irreducible] hs
def J42 (S : Nat) (L : List UInt8) : Nat × Nat := match vpt (kP S) L with
  | none => (0, 15)
  | some c => (vPr S (J0k (kP S) L c), 0)
def vsm (P : Nat) : Nat × Nat := if dOk (pG P) = true then (Q3h P, 0) else (0, 17)
theorem J2z {S c : Nat} {L : List UInt8} (h : vpt (kP S) L = some c) : J42 S L = (vPr S (J0k (kP S) L c), 0) := by unfold J42; rw [h]
theorem J7o {S : Nat} {L : List UInt8} (h : vpt (kP S) L = none) : J42 S L = (0, 15) := by unfold J42; rw [h]
theorem Q19 {V c : Nat} {L : List UInt8} (h : J1i V L c = true) : OnC (J0k V L c) := J2m (Q0m (candOk_iff.1 h).1) 8
theorem Q7x (S : Nat) (L : List UInt8) : B80 (J42 S L).1 := by
  unfold B80
  cases h : vpt (kP S) L with
  | none => rw [J7o h]; decide +kernel
  | some c => rw [J2z h]; rw [(J5v (Q19 (J8u h).2.1)).2.2]; exact Nat.lt_trans (Z3q _ _) J2f
theorem Q1a (hd : kn.d) (hb : kn.b) (hc : kn.c) {X E S : Nat} {L : List UInt8} (hX : X = (J42 S L).1) (hE : E = (J42 S L).2) (v : Value) (hL : L.length ≤ 1099511627776) (w : World) (hG : GA kn w) (hs : Sl w v L) :
    Calls Tryd.prog 23 #[.agg (J2 .u8 32 (Q0 S)), v] w fun e w' => Ret (.tuple #[.agg (J2 .u8 80 (Q0 X)), .int .i64 (E : Int)]) w w' e := by
  subst hX hE
  cases h : vpt (kP S) L with
  | none => rw [J7o h]; exact Z6m hd hb hc S v L hL h w hG hs
  | some c => rw [J2z h]; exact Z6l hd hb hc S c v L hL h rfl w hG hs
theorem Q1b (hd : kn.d) (hb : kn.b) (hc : kn.c) {X E V P : Nat} {L : List UInt8} (hX : X = (J4w V L P).1) (hE : E = (J4w V L P).2) (hV : V < 2 ^ 256) (hP : B80 P) (v : Value) (hL : L.length ≤ 1099511627776) (w : World) (hG : GA kn w) (hs : Sl w v L) :
    Calls Tryd.prog 26 #[.agg (J2 .u8 32 (Q0 V)), v, .agg (J2 .u8 80 (Q0 P))] w fun e w' => Ret (.tuple #[.agg (J2 .u8 64 (Q0 X)), .int .i64 (E : Int)]) w w' e := by
  subst hX hE; exact Z6r hd hb hc rfl hV hP v hL w hG hs
theorem Z6s (hc : kn.c) {X E P : Nat} (hX : X = (vsm P).1) (hE : E = (vsm P).2) (w : World) (hG : GA kn w) :
    Calls Tryd.prog 27 #[.agg (J2 .u8 80 (Q0 P))] w fun e w' => Ret (.tuple #[.agg (J2 .u8 64 (Q0 X)), .int .i64 (E : Int)]) w w' e := by
  subst hX hE
  unfold vsm
  cases h : dOk (pG P)
  · rw [if_neg (by decide)]; exact Y0u hc h w hG
  · rw [if_pos rfl]; exact Z39 hc h rfl w hG
theorem Q3l {V P c : Nat} {L : List UInt8} (h1 : dOk V = true) (h2 : ¬ pm (dPt V) 8 = p0) (h3 : dOk (pG P) = true) (h4 : pN P < LL) (h5 : vpt V L = some c) : (J8w V P (J0k V L c) → J4w V L P = (Q3h P, 0)) ∧ (¬ J8w V P (J0k V L c) → J4w V L P = (0, 17)) := by
  have e : J4w V L P = if chk V P (J0k V L c) = pC P then (Q3h P, 0) else (0, 17) := by
    unfold J4w
    rw [if_neg (by rintro (h | h); rw [h1] at h; cases h; exact h2 h), if_neg (by rintro (h | h); rw [h3] at h; cases h; exact absurd h (Nat.not_le.2 h4)), h5]
  rw [e]
  exact ⟨fun h => if_pos h, fun h => if_neg h⟩
theorem Y5r : (J42 1 [97]).2 = 0 := by rw [J2z vpa]
theorem pf_key : dOk (pG (J42 1 [97]).1) = true ∧ pN (J42 1 [97]).1 < LL := by
  rw [J2z vpa]
  have hon := Q19 (J8u vpa).2.1
  obtain ⟨e1, -, e3⟩ := J5v (S := 1) hon
  exact ⟨by rw [e1]; exact (J36 (J2m hon _)).1, by rw [e3]; exact Z3q _ _⟩
theorem Y5s : (J4w (kP 1) [97] (J42 1 [97]).1).2 = 0 := by
  have h := (Q3l key1.1 key1.2 pf_key.1 pf_key.2 vpa).1
  rw [J2z vpa] at h ⊢
  rw [h Y16]
theorem Y5t : (J4w (kP 1) [98] (J42 1 [97]).1).2 = 17 := by
  have h := (Q3l key1.1 key1.2 pf_key.1 pf_key.2 vpb).2
  rw [J2z vpa] at h ⊢
  rw [h Y17]
attribute [local irreducible] J42 J4w

theorem Q4o (hd : kn.d) (hb : kn.b) (hc : kn.c) :
  ∀ w, GA kn w → Calls Tryd.prog 25 #[] w fun e w' => Ret (.bool true) w w' e := by
 obtain ⟨U1, hU1⟩ := V3 ((J42 1 [97]).1)
 have eU1 : B80 U1 := by rw [hU1]; exact Q7x _ _
 have HU1 := Lib.hid hU1
 clear hU1
 obtain ⟨U2, hU2⟩ := V3 ((J42 1 [97]).2)
 have HU2 := Lib.hid hU2
 clear hU2
 have hz0 : (U2 : Int) = 0 := by rw [HU2.out]; exact congrArg Nat.cast Y5r
 obtain ⟨U3, hU3⟩ := V3 (kN 1)
 have bU3 : U3 < 2 ^ 256 := by rw [hU3]; exact Q7j _
 have HU3 := Lib.hid hU3
 clear hU3
 obtain ⟨U4, hU4⟩ := V3 (kD 1)
 have bU4 : U4 < 2 ^ 256 := by rw [hU4]; exact Q7k _
 have HU4 := Lib.hid hU4
 clear hU4
 obtain ⟨U5, hU5⟩ := V3 (kP 1)
 have bU5 : U5 < 2 ^ 256 := by rw [hU5]; exact Q7l _
 have HU5 := Lib.hid hU5
 clear hU5
 obtain ⟨U6, hU6⟩ := V3 ((J4w U5 [97] U1).1)
 have HU6 := Lib.hid hU6
 clear hU6
 obtain ⟨U7, hU7⟩ := V3 ((J4w U5 [97] U1).2)
 have HU7 := Lib.hid hU7
 clear hU7
 have hz1 : (U7 : Int) = 0 := by rw [HU7.out, HU5.out, HU1.out]; exact congrArg Nat.cast Y5s
 obtain ⟨U8, hU8⟩ := V3 ((J4w U5 [98] U1).1)
 have HU8 := Lib.hid hU8
 clear hU8
 obtain ⟨U9, hU9⟩ := V3 ((J4w U5 [98] U1).2)
 have HU9 := Lib.hid hU9
 clear hU9
 have hz2 : (U9 : Int) = 17 := by rw [HU9.out, HU5.out, HU1.out]; exact congrArg Nat.cast Y5t
 intro w hG
 have off0 : Off [] w w := Off.refl _ _
 go_enter Tryd.func25, Tryd.ntmps25
 go_upto_region 1 with fail
 refine wp_region_lit ?_
 refine Lw ?_ (v := .agg (J2 .u8 32 (Q0 1))) (hv := by kernel_rfl)
 refine LnA ?_ (z := J2 .u8 32 (Q0 0)) (t := 22) (k := .u8) (n := 32) (f := Q0 1)
 intro J0d W2 J1r hO h_
 replace off0 := off0.o hO
 have k_t1 := h_
 clear hO h_ J1r
 refine J0 ?_
 go_upto_region 2 with fail
 refine wp_region_lit ?_
 refine L0A ?_ k_t1
 refine LnS ?_ (z := #[.int .u8 97]) (t := 5) (n := 1) (c := 1)
 intro J74 W3 J8t hO h_
 have Q2e : Value.ownBlock (.slice (some ⟨J74, 0, none⟩) 1 1) ≠ some J0d := obn k_t1 J8t
 have Z3r : Fr (Value.ownBlock (.slice (some ⟨J74, 0, none⟩) 1 1)) w.heap.size [] := frn off0 J8t
 replace k_t1 := k_t1.o hO
 replace off0 := off0.o hO
 have Z3s : Own W3 (.slice (some ⟨J74, 0, none⟩) 1 1) [97] := J0b h_ (by rfl) (by show 1 ≤ maxLen; decide)
 clear hO h_ J8t
 refine Q0v Z3s rfl (by rfl) rfl rfl ?_
 (try simp only [Act.put, mA, mB, mC])
 intro W4 hO Y18
 replace k_t1 := V2 k_t1 hO (nmo Q2e)
 replace off0 := off0.step hO (io Z3r)
 clear Z3s Z3r Q2e
 clear hO
 refine Lr ?_ (Q1a hd hb hc HU1.out HU2.out (.slice (some ⟨J74, 0, none⟩) 1 1) (by first | omega | (simp only [List.length_append, List.length_take, List.length_cons, List.length_nil, Z7]; omega)) W4 (J8 hG off0.ext) Y18)
 intro W5 hO
 replace k_t1 := k_t1.o hO
 replace off0 := off0.o hO
 clear hO
 refine Lv ?_
 refine Lv ?_
 refine Lv ?_
 refine LnA ?_ (z := J2 .u8 80 (Q0 0)) (t := 45) (k := .u8) (n := 80) (f := Q0 U1)
 intro Y3u W7 V0 hO h_
 replace k_t1 := k_t1.o hO
 replace off0 := off0.o hO
 have k_t2 := h_
 clear hO h_ V0
 refine Lv ?_
 refine J0 ?_
 go_upto_region 3 with fail
 refine wp_region_lit ?_
 refine L0A ?_ k_t1
 refine Lr ?_ (J7l hd hb HU3.out HU4.out HU5.out W7 (J8 hG off0.ext))
 intro W8 hO
 replace k_t2 := k_t2.o hO
 replace off0 := off0.o hO
 clear hO
 refine Lw ?_ (v := .agg (J2 .u8 32 (Q0 U5))) (hv := by kernel_rfl)
 refine LnA ?_ (z := J2 .u8 32 (Q0 0)) (t := 22) (k := .u8) (n := 32) (f := Q0 U5)
 intro Y5u W10 J0l hO h_
 replace k_t2 := k_t2.o hO
 replace off0 := off0.o hO
 have k_t4 := h_
 clear hO h_ J0l
 refine J0 ?_
 go_upto_region 4 with fail
 refine wp_region_lit ?_
 refine L0A ?_ k_t4
 refine LnS ?_ (z := #[.int .u8 97]) (t := 5) (n := 1) (c := 1)
 intro J6c W11 Q27 hO h_
 have Q2f : Value.ownBlock (.slice (some ⟨J6c, 0, none⟩) 1 1) ≠ some Y3u := obn k_t2 Q27
 have Q2g : Value.ownBlock (.slice (some ⟨J6c, 0, none⟩) 1 1) ≠ some Y5u := obn k_t4 Q27
 have Z3t : Fr (Value.ownBlock (.slice (some ⟨J6c, 0, none⟩) 1 1)) w.heap.size [] := frn off0 Q27
 replace k_t2 := k_t2.o hO
 replace k_t4 := k_t4.o hO
 replace off0 := off0.o hO
 have ow_s22 : Own W11 (.slice (some ⟨J6c, 0, none⟩) 1 1) [97] := J0b h_ (by rfl) (by show 1 ≤ maxLen; decide)
 clear hO h_ Q27
 refine Q0v ow_s22 rfl (by rfl) rfl rfl ?_
 (try simp only [Act.put, mA, mB, mC])
 intro W12 hO Y19
 replace k_t2 := V2 k_t2 hO (nmo Q2f)
 replace k_t4 := V2 k_t4 hO (nmo Q2g)
 replace off0 := off0.step hO (io Z3t)
 clear ow_s22 Z3t Q2f Q2g
 clear hO
 refine L0A ?_ k_t2
 refine Lr ?_ (Q1b hd hb hc HU6.out HU7.out bU5 eU1 (.slice (some ⟨J6c, 0, none⟩) 1 1) (by first | omega | (simp only [List.length_append, List.length_take, List.length_cons, List.length_nil, Z7]; omega)) W12 (J8 hG off0.ext) Y19)
 intro W13 hO
 replace k_t2 := k_t2.o hO
 replace k_t4 := k_t4.o hO
 replace off0 := off0.o hO
 clear hO
 refine Lv ?_
 refine Lv ?_
 refine Lv ?_
 refine LnA ?_ (z := J2 .u8 64 (Q0 0)) (t := 30) (k := .u8) (n := 64) (f := Q0 U6)
 intro Y6z W15 J06 hO h_
 replace k_t2 := k_t2.o hO
 replace k_t4 := k_t4.o hO
 replace off0 := off0.o hO
 clear hO h_ J06
 refine Lv ?_
 refine J0 ?_
 go_upto_region 5 with fail
 refine wp_region_lit ?_
 refine L0A ?_ k_t4
 refine LnS ?_ (z := #[.int .u8 98]) (t := 5) (n := 1) (c := 1)
 intro Q3m W16 Z3u hO h_
 have Q2h : Value.ownBlock (.slice (some ⟨Q3m, 0, none⟩) 1 1) ≠ some Y3u := obn k_t2 Z3u
 have Z3v : Fr (Value.ownBlock (.slice (some ⟨Q3m, 0, none⟩) 1 1)) w.heap.size [] := frn off0 Z3u
 replace k_t2 := k_t2.o hO
 replace off0 := off0.o hO
 have Z3w : Own W16 (.slice (some ⟨Q3m, 0, none⟩) 1 1) [98] := J0b h_ (by rfl) (by show 1 ≤ maxLen; decide)
 clear hO h_ Z3u
 refine Q0v Z3w rfl (by rfl) rfl rfl ?_
 (try simp only [Act.put, mA, mB, mC])
 intro W17 hO Y1a
 replace k_t2 := V2 k_t2 hO (nmo Q2h)
 replace off0 := off0.step hO (io Z3v)
 clear Z3w Z3v Q2h
 clear hO
 refine L0A ?_ k_t2
 refine Lr ?_ (Q1b hd hb hc HU8.out HU9.out bU5 eU1 (.slice (some ⟨Q3m, 0, none⟩) 1 1) (by first | omega | (simp only [List.length_append, List.length_take, List.length_cons, List.length_nil, Z7]; omega)) W17 (J8 hG off0.ext) Y1a)
 intro W18 hO
 replace off0 := off0.o hO
 clear hO
 refine Lv ?_
 refine Lv ?_
 refine Lv ?_
 refine LnA ?_ (z := J2 .u8 64 (Q0 0)) (t := 30) (k := .u8) (n := 64) (f := Q0 U8)
 intro Y70 W20 V8 hO h_
 replace off0 := off0.o hO
 clear hO h_ V8
 refine Lv ?_
 refine J0 ?_
 go_upto_region 6 with fail
 refine wp_region_lit ?_
 refine Lv ?_
 refine Lw ?_ (v := .bool true) (hv := by first | (go_simp; done) | (go_simp; simp only [hz0]; done) | (go_simp; simp only [hz0]; decide))
 refine Lw ?_ (v := .bool true)
 refine Lv ?_
 refine Lw ?_ (v := .bool true) (hv := by first | (go_simp; done) | (go_simp; simp only [hz1]; done) | (go_simp; simp only [hz1]; decide))
 refine Lw ?_ (v := .bool true)
 refine Lw ?_ (v := .bool true)
 refine Lv ?_
 refine Lw ?_ (v := .bool true) (hv := by first | (go_simp; done) | (go_simp; simp only [hz2]; done) | (go_simp; simp only [hz2]; decide))
 refine Lw ?_ (v := .bool true)
 refine Lw ?_ (v := .bool true)
 refine J0 ?_
 go_wp2
 exact bodyPost_ret (v := .bool true) (by simp only [results, Tryd.results25]; go_simp) rfl ⟨rfl, off0.ext⟩
end Go.Proofs.YtefpoollmbmkfaaDoor
