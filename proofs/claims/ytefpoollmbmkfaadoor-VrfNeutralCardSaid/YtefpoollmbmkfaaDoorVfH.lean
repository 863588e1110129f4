/- custumallaw09: proofs, VrfProves. Conditions: the cells of the variables hold their numbers. -/
import Derived.Test.YtefpoollmbmkfaaDoorGc
import Derived.Test.YtefpoollmbmkfaaDoorVc
import Derived.Test.YtefpoollmbmkfaaDoorSgD
import Derived.Test.YtefpoollmbmkfaaDoorVw
set_option linter.unusedSimpArgs false
set_option linter.unusedVariables false
namespace Go.Proofs.YtefpoollmbmkfaaDoor
set_option maxHeartbeats 2000000
set_option maxRecDepth 100000
open Go.RowKit
attribute [local irreducible] wpList
variable {kn : Kn}
open Sc (LL J12)
attribute [local irreducible] hs
def J7h (S : Nat) (L : List UInt8) : Nat × Nat := match vpt (kP S) L with
  | none => (0, 15)
  | some c => (vPr S (J1f (kP S) L c), 0)
def vsm (P : Nat) : Nat × Nat := if dOk (pG P) = true then (Q46 P, 0) else (0, 17)
theorem J47 {S c : Nat} {L : List UInt8} (h : vpt (kP S) L = some c) : J7h S L = (vPr S (J1f (kP S) L c), 0) := by unfold J7h; rw [h]
theorem Q20 {S : Nat} {L : List UInt8} (h : vpt (kP S) L = none) : J7h S L = (0, 15) := by unfold J7h; rw [h]
theorem Q4b {V c : Nat} {L : List UInt8} (h : J1j V L c = true) : OnC (J1f V L c) := J3p (Z0c (candOk_iff.1 h).1) 8
theorem Z6a (S : Nat) (L : List UInt8) : B80 (J7h S L).1 := by
  unfold B80
  cases h : vpt (kP S) L with
  | none => rw [Q20 h]; decide +kernel
  | some c => rw [J47 h]; rw [(J7e (Q4b (Q0r h).2.1)).2.2]; exact Nat.lt_trans (Z7m _ _) J2b
theorem Z3c (hd : kn.d) (hb : kn.b) (hc : kn.c) {X E S : Nat} {L : List UInt8} (hX : X = (J7h S L).1) (hE : E = (J7h S L).2) (v : Value) (hL : L.length ≤ 1099511627776) (w : World) (hG : GA kn w) (hs : Sl w v L) :
    Calls Tryd.prog 23 #[.agg (J2 .u8 32 (Q0 S)), v] w fun e w' => Ret (.tuple #[.agg (J2 .u8 80 (Q0 X)), .int .i64 (E : Int)]) w w' e := by
  subst hX hE
  cases h : vpt (kP S) L with
  | none => rw [Q20 h]; exact Z64 hd hb hc S v L hL h w hG hs
  | some c => rw [J47 h]; exact Z63 hd hb hc S c v L hL h rfl w hG hs
theorem J5o (hd : kn.d) (hb : kn.b) (hc : kn.c) {X E V P : Nat} {L : List UInt8} (hX : X = (J2s V L P).1) (hE : E = (J2s V L P).2) (hV : V < 2 ^ 256) (hP : B80 P) (v : Value) (hL : L.length ≤ 1099511627776) (w : World) (hG : GA kn w) (hs : Sl w v L) :
    Calls Tryd.prog 26 #[.agg (J2 .u8 32 (Q0 V)), v, .agg (J2 .u8 80 (Q0 P))] w fun e w' => Ret (.tuple #[.agg (J2 .u8 64 (Q0 X)), .int .i64 (E : Int)]) w w' e := by
  subst hX hE; exact Z69 hd hb hc rfl hV hP v hL w hG hs
theorem Q7f {V P c : Nat} {L : List UInt8} (h1 : dOk V = true) (h2 : ¬ pm (dPt V) 8 = p0) (h3 : dOk (pG P) = true) (h4 : pN P < LL) (h5 : vpt V L = some c) : (J8h V P (J1f V L c) → J2s V L P = (Q46 P, 0)) ∧ (¬ J8h V P (J1f V L c) → J2s V L P = (0, 17)) := by
  have e : J2s V L P = if chk V P (J1f V L c) = pC P then (Q46 P, 0) else (0, 17) := by
    unfold J2s
    rw [if_neg (by rintro (h | h); rw [h1] at h; cases h; exact h2 h), if_neg (by rintro (h | h); rw [h3] at h; cases h; exact absurd h (Nat.not_le.2 h4)), h5]
  rw [e]
  exact ⟨fun h => if_pos h, fun h => if_neg h⟩
theorem Y54 : (J7h 1 [97]).2 = 0 := by rw [J47 vpa]
theorem pf_key : dOk (pG (J7h 1 [97]).1) = true ∧ pN (J7h 1 [97]).1 < LL := by
  rw [J47 vpa]
  have hon := Q4b (Q0r vpa).2.1
  obtain ⟨e1, -, e3⟩ := J7e (S := 1) hon
  exact ⟨by rw [e1]; exact (J41 (J3p hon _)).1, by rw [e3]; exact Z7m _ _⟩
theorem Y55 : (J2s (kP 1) [97] (J7h 1 [97]).1).2 = 0 := by
  have h := (Q7f key1.1 key1.2 pf_key.1 pf_key.2 vpa).1
  rw [J47 vpa] at h ⊢
  rw [h Y0q]
theorem Y56 : (J2s (kP 1) [98] (J7h 1 [97]).1).2 = 17 := by
  have h := (Q7f key1.1 key1.2 pf_key.1 pf_key.2 vpb).2
  rw [J47 vpa] at h ⊢
  rw [h Y0r]
attribute [local irreducible] J7h J2s

theorem Q0y (hd : kn.d) (hb : kn.b) (hc : kn.c) :
  ∀ w, GA kn w → Calls Tryd.prog 25 #[] w fun e w' => Ret (.bool true) w w' e := by
 obtain ⟨U1, hU1⟩ := V3 ((J7h 1 [97]).1)
 have eU1 : B80 U1 := by rw [hU1]; exact Z6a _ _
 have HU1 := Lib.hid hU1
 clear hU1
 obtain ⟨U2, hU2⟩ := V3 ((J7h 1 [97]).2)
 have HU2 := Lib.hid hU2
 clear hU2
 have hz0 : (U2 : Int) = 0 := by rw [HU2.out]; exact congrArg Nat.cast Y54
 obtain ⟨U3, hU3⟩ := V3 (kN 1)
 have bU3 : U3 < 2 ^ 256 := by rw [hU3]; exact Z2j _
 have HU3 := Lib.hid hU3
 clear hU3
 obtain ⟨U4, hU4⟩ := V3 (kD 1)
 have bU4 : U4 < 2 ^ 256 := by rw [hU4]; exact Z2k _
 have HU4 := Lib.hid hU4
 clear hU4
 obtain ⟨U5, hU5⟩ := V3 (kP 1)
 have bU5 : U5 < 2 ^ 256 := by rw [hU5]; exact Z2l _
 have HU5 := Lib.hid hU5
 clear hU5
 obtain ⟨U6, hU6⟩ := V3 ((J2s U5 [97] U1).1)
 have HU6 := Lib.hid hU6
 clear hU6
 obtain ⟨U7, hU7⟩ := V3 ((J2s U5 [97] U1).2)
 have HU7 := Lib.hid hU7
 clear hU7
 have hz1 : (U7 : Int) = 0 := by rw [HU7.out, HU5.out, HU1.out]; exact congrArg Nat.cast Y55
 obtain ⟨U8, hU8⟩ := V3 ((J2s U5 [98] U1).1)
 have HU8 := Lib.hid hU8
 clear hU8
 obtain ⟨U9, hU9⟩ := V3 ((J2s U5 [98] U1).2)
 have HU9 := Lib.hid hU9
 clear hU9
 have hz2 : (U9 : Int) = 17 := by rw [HU9.out, HU5.out, HU1.out]; exact congrArg Nat.cast Y56
 intro w hG
 have off0 : Off [] w w := Off.refl _ _
 go_enter Tryd.func25, Tryd.ntmps25
 go_upto_region 1 with fail
 refine wp_region_lit ?_
 refine Lw ?_ (v := .agg (J2 .u8 32 (Q0 1))) (hv := by kernel_rfl)
 refine LnA ?_ (z := J2 .u8 32 (Q0 0)) (t := 22) (k := .u8) (n := 32) (f := Q0 1)
 intro J0i W2 J1s hO h_
 replace off0 := off0.o hO
 have k_t1 := h_
 clear hO h_ J1s
 refine J0 ?_
 go_upto_region 2 with fail
 refine wp_region_lit ?_
 refine L0A ?_ k_t1
 refine LnS ?_ (z := #[.int .u8 97]) (t := 5) (n := 1) (c := 1)
 intro J6v W3 J8f hO h_
 have Q21 : Value.ownBlock (.slice (some ⟨J6v, 0, none⟩) 1 1) ≠ some J0i := obn k_t1 J8f
 have Z3d : Fr (Value.ownBlock (.slice (some ⟨J6v, 0, none⟩) 1 1)) w.heap.size [] := frn off0 J8f
 replace k_t1 := k_t1.o hO
 replace off0 := off0.o hO
 have Z3e : Own W3 (.slice (some ⟨J6v, 0, none⟩) 1 1) [97] := J07 h_ (by rfl) (by show 1 ≤ maxLen; decide)
 clear hO h_ J8f
 refine Q0i Z3e rfl (by rfl) rfl rfl ?_
 (try simp only [Act.put, mA, mB, mC])
 intro W4 hO Y0s
 replace k_t1 := V1 k_t1 hO (nmo Q21)
 replace off0 := off0.step hO (io Z3d)
 clear Z3e Z3d Q21
 clear hO
 refine Lr ?_ (Z3c hd hb hc HU1.out HU2.out (.slice (some ⟨J6v, 0, none⟩) 1 1) (by first | omega | (simp only [List.length_append, List.length_take, List.length_cons, List.length_nil, Z7]; omega)) W4 (J8 hG off0.ext) Y0s)
 intro W5 hO
 replace k_t1 := k_t1.o hO
 replace off0 := off0.o hO
 clear hO
 refine Lv ?_
 refine Lv ?_
 refine Lv ?_
 refine LnA ?_ (z := J2 .u8 80 (Q0 0)) (t := 45) (k := .u8) (n := 80) (f := Q0 U1)
 intro Y3e W7 V2 hO h_
 replace k_t1 := k_t1.o hO
 replace off0 := off0.o hO
 have k_t2 := h_
 clear hO h_ V2
 refine Lv ?_
 refine J0 ?_
 go_upto_region 3 with fail
 refine wp_region_lit ?_
 refine L0A ?_ k_t1
 refine Lr ?_ (J8w hd hb HU3.out HU4.out HU5.out W7 (J8 hG off0.ext))
 intro W8 hO
 replace k_t2 := k_t2.o hO
 replace off0 := off0.o hO
 clear hO
 refine Lw ?_ (v := .agg (J2 .u8 32 (Q0 U5))) (hv := by kernel_rfl)
 refine LnA ?_ (z := J2 .u8 32 (Q0 0)) (t := 22) (k := .u8) (n := 32) (f := Q0 U5)
 intro Y57 W10 J0k hO h_
 replace k_t2 := k_t2.o hO
 replace off0 := off0.o hO
 have k_t4 := h_
 clear hO h_ J0k
 refine J0 ?_
 go_upto_region 4 with fail
 refine wp_region_lit ?_
 refine L0A ?_ k_t4
 refine LnS ?_ (z := #[.int .u8 97]) (t := 5) (n := 1) (c := 1)
 intro J65 W11 Q1u hO h_
 have Q22 : Value.ownBlock (.slice (some ⟨J65, 0, none⟩) 1 1) ≠ some Y3e := obn k_t2 Q1u
 have Q23 : Value.ownBlock (.slice (some ⟨J65, 0, none⟩) 1 1) ≠ some Y57 := obn k_t4 Q1u
 have Z3f : Fr (Value.ownBlock (.slice (some ⟨J65, 0, none⟩) 1 1)) w.heap.size [] := frn off0 Q1u
 replace k_t2 := k_t2.o hO
 replace k_t4 := k_t4.o hO
 replace off0 := off0.o hO
 have ow_s22 : Own W11 (.slice (some ⟨J65, 0, none⟩) 1 1) [97] := J07 h_ (by rfl) (by show 1 ≤ maxLen; decide)
 clear hO h_ Q1u
 refine Q0i ow_s22 rfl (by rfl) rfl rfl ?_
 (try simp only [Act.put, mA, mB, mC])
 intro W12 hO Y0t
 replace k_t2 := V1 k_t2 hO (nmo Q22)
 replace k_t4 := V1 k_t4 hO (nmo Q23)
 replace off0 := off0.step hO (io Z3f)
 clear ow_s22 Z3f Q22 Q23
 clear hO
 refine L0A ?_ k_t2
 refine Lr ?_ (J5o hd hb hc HU6.out HU7.out bU5 eU1 (.slice (some ⟨J65, 0, none⟩) 1 1) (by first | omega | (simp only [List.length_append, List.length_take, List.length_cons, List.length_nil, Z7]; omega)) W12 (J8 hG off0.ext) Y0t)
 intro W13 hO
 replace k_t2 := k_t2.o hO
 replace k_t4 := k_t4.o hO
 replace off0 := off0.o hO
 clear hO
 refine Lv ?_
 refine Lv ?_
 refine Lv ?_
 refine LnA ?_ (z := J2 .u8 64 (Q0 0)) (t := 30) (k := .u8) (n := 64) (f := Q0 U6)
 intro Y64 W15 J05 hO h_
 replace k_t2 := k_t2.o hO
 replace k_t4 := k_t4.o hO
 replace off0 := off0.o hO
 clear hO h_ J05
 refine Lv ?_
 refine J0 ?_
 go_upto_region 5 with fail
 refine wp_region_lit ?_
 refine L0A ?_ k_t4
 refine LnS ?_ (z := #[.int .u8 98]) (t := 5) (n := 1) (c := 1)
 intro Q37 W16 Z3g hO h_
 have Q24 : Value.ownBlock (.slice (some ⟨Q37, 0, none⟩) 1 1) ≠ some Y3e := obn k_t2 Z3g
 have Z3h : Fr (Value.ownBlock (.slice (some ⟨Q37, 0, none⟩) 1 1)) w.heap.size [] := frn off0 Z3g
 replace k_t2 := k_t2.o hO
 replace off0 := off0.o hO
 have Z3i : Own W16 (.slice (some ⟨Q37, 0, none⟩) 1 1) [98] := J07 h_ (by rfl) (by show 1 ≤ maxLen; decide)
 clear hO h_ Z3g
 refine Q0i Z3i rfl (by rfl) rfl rfl ?_
 (try simp only [Act.put, mA, mB, mC])
 intro W17 hO Y0u
 replace k_t2 := V1 k_t2 hO (nmo Q24)
 replace off0 := off0.step hO (io Z3h)
 clear Z3i Z3h Q24
 clear hO
 refine L0A ?_ k_t2
 refine Lr ?_ (J5o hd hb hc HU8.out HU9.out bU5 eU1 (.slice (some ⟨Q37, 0, none⟩) 1 1) (by first | omega | (simp only [List.length_append, List.length_take, List.length_cons, List.length_nil, Z7]; omega)) W17 (J8 hG off0.ext) Y0u)
 intro W18 hO
 replace off0 := off0.o hO
 clear hO
 refine Lv ?_
 refine Lv ?_
 refine Lv ?_
 refine LnA ?_ (z := J2 .u8 64 (Q0 0)) (t := 30) (k := .u8) (n := 64) (f := Q0 U8)
 intro Y65 W20 V6 hO h_
 replace off0 := off0.o hO
 clear hO h_ V6
 refine Lv ?_
 refine J0 ?_
 go_upto_region 6 with fail
 refine wp_region_lit ?_
 refine Lv ?_
 refine Lw ?_ (v := .bool true) (hv := by first | (go_simp; done) | (go_simp; simp only [hz0]; done) | (go_simp; simp only [hz0]; decide))
 refine Lw ?_ (v := .bool true)
 refine Lv ?_
 refine Lw ?_ (v := .bool true) (hv := by first | (go_simp; done) | (go_simp; simp only [hz1]; done) | (go_simp; simp only [hz1]; decide))
 refine Lw ?_ (v := .bool true)
 refine Lw ?_ (v := .bool true)
 refine Lv ?_
 refine Lw ?_ (v := .bool true) (hv := by first | (go_simp; done) | (go_simp; simp only [hz2]; done) | (go_simp; simp only [hz2]; decide))
 refine Lw ?_ (v := .bool true)
 refine Lw ?_ (v := .bool true)
 refine J0 ?_
 go_wp2
 exact bodyPost_ret (v := .bool true) (by simp only [results, Tryd.results25]; go_simp) rfl ⟨rfl, off0.ext⟩
end Go.Proofs.YtefpoollmbmkfaaDoor
