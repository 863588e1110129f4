/- custumallaw09: proofs, VrfProves. Conditions: the cells of the variables hold their numbers. -/
import Derived.Test.YtefpoollmbmkfaaDoorGc
import Derived.Test.YtefpoollmbmkfaaDoorVc
import Derived.Test.YtefpoollmbmkfaaDoorSgD
import Derived.Test.YtefpoollmbmkfaaDoorVw
set_option linter.unusedSimpArgs false
set_option linter.unusedVariables false
namespace Go.Proofs.YtefpoollmbmkfaaDoor
set_option maxHeartbeats 2000000
set_option maxRecDepth 100000
open Go.RowKit
attribute [local irreducible] wpList
variable {kn : Kn}
open Sc (LL J21)
attribute [local irreducible] hs
def J8k (S : Nat) (L : List UInt8) : Nat × Nat := match vpt (kP S) L with
  | none => (0, 15)
  | some c => (vPr S (J22 (kP S) L c), 0)
theorem J5s {S c : Nat} {L : List UInt8} (h : vpt (kP S) L = some c) : J8k S L = (vPr S (J22 (kP S) L c), 0) := by unfold J8k; rw [h]
theorem Q3j {S : Nat} {L : List UInt8} (h : vpt (kP S) L = none) : J8k S L = (0, 15) := by unfold J8k; rw [h]
theorem Z0z {V c : Nat} {L : List UInt8} (h : J2a V L c = true) : OnC (J22 V L c) := J66 (Z1f (candOk_iff.1 h).1) 8
theorem Z5e (S : Nat) (L : List UInt8) : B80 (J8k S L).1 := by
  unfold B80
  cases h : vpt (kP S) L with
  | none => rw [Q3j h]; decide +kernel
  | some c => rw [J5s h]; rw [(Q0r (Z0z (Q2j h).2.1)).2.2]; exact Nat.lt_trans (Y7q _ _) J2w
theorem Z10 (hd : kn.d) (hb : kn.b) (hc : kn.c) {X E S : Nat} {L : List UInt8} (hX : X = (J8k S L).1) (hE : E = (J8k S L).2) (v : Value) (hL : L.length ≤ 1099511627776) (w : World) (hG : GA kn w) (hs : Sl w v L) :
    Calls Tryd.prog 23 #[.agg (J1 .u8 32 (Q6 S)), v] w fun e w' => Ret (.tuple #[.agg (J1 .u8 80 (Q6 X)), .int .i64 (E : Int)]) w w' e := by
  subst hX hE
  cases h : vpt (kP S) L with
  | none => rw [Q3j h]; exact Y5v hd hb hc S v L hL h w hG hs
  | some c => rw [J5s h]; exact Y5u hd hb hc S c v L hL h rfl w hG hs
theorem Q0b (hd : kn.d) (hb : kn.b) (hc : kn.c) {X E V P : Nat} {L : List UInt8} (hX : X = (J6a V L P).1) (hE : E = (J6a V L P).2) (hV : V < 2 ^ 256) (hP : B80 P) (v : Value) (hL : L.length ≤ 1099511627776) (w : World) (hG : GA kn w) (hs : Sl w v L) :
    Calls Tryd.prog 26 #[.agg (J1 .u8 32 (Q6 V)), v, .agg (J1 .u8 80 (Q6 P))] w fun e w' => Ret (.tuple #[.agg (J1 .u8 64 (Q6 X)), .int .i64 (E : Int)]) w w' e := by
  subst hX hE; exact Y60 hd hb hc rfl hV hP v hL w hG hs
theorem Q3k {X E V P : Nat} {L : List UInt8} (hX : X = (J6a V L P).1) (hE : E = (J6a V L P).2) (hV : V < 2 ^ 256) (hP : B80 P) (hL : L.length ≤ 1099511627776) (w : World) (hG : GR w) :
    Calls Tryd.prog 28 #[str (lb 32 V), str L, str (lb 80 P)] w fun e w' => Ret (.tuple #[str (lb 64 X), .int .i64 (E : Int)]) w w' e := by
  subst hX hE; exact Y2p rfl hV hP hL w hG
theorem Z5f {V P c : Nat} {L : List UInt8} (h1 : dOk V = true) (h2 : ¬ pm (dPt V) 8 = p0) (h3 : dOk (pG P) = true) (h4 : pN P < LL) (h5 : vpt V L = some c) : (Q2m V P (J22 V L c) → J6a V L P = (Q6a P, 0)) ∧ (¬ Q2m V P (J22 V L c) → J6a V L P = (0, 17)) := by
  have e : J6a V L P = if chk V P (J22 V L c) = pC P then (Q6a P, 0) else (0, 17) := by
    unfold J6a
    rw [if_neg (by rintro (h | h); rw [h1] at h; cases h; exact h2 h), if_neg (by rintro (h | h); rw [h3] at h; cases h; exact absurd h (Nat.not_le.2 h4)), h5]
  rw [e]
  exact ⟨fun h => if_pos h, fun h => if_neg h⟩
theorem V63 : (J8k 1 [97]).2 = 0 := by rw [J5s vpa]
theorem pf_key : dOk (pG (J8k 1 [97]).1) = true ∧ pN (J8k 1 [97]).1 < LL := by
  rw [J5s vpa]
  have hon := Z0z (Q2j vpa).2.1
  obtain ⟨e1, -, e3⟩ := Q0r (S := 1) hon
  exact ⟨by rw [e1]; exact (J8s (J66 hon _)).1, by rw [e3]; exact Y7q _ _⟩
theorem V64 : (J6a (kP 1) [97] (J8k 1 [97]).1).2 = 0 := by
  have h := (Z5f key1.1 key1.2 pf_key.1 pf_key.2 vpa).1
  rw [J5s vpa] at h ⊢
  rw [h V16]
theorem V65 : (J6a (kP 1) [98] (J8k 1 [97]).1).2 = 17 := by
  have h := (Z5f key1.1 key1.2 pf_key.1 pf_key.2 vpb).2
  rw [J5s vpa] at h ⊢
  rw [h V17]
attribute [local irreducible] J8k J6a

theorem J8l (hd : kn.d) (hb : kn.b) (hc : kn.c) :
  ∀ w, GA kn w → Calls Tryd.prog 25 #[] w fun e w' => Ret (.bool true) w w' e := by
 obtain ⟨U1, hU1⟩ := V2 ((J8k 1 [97]).1)
 have eU1 : B80 U1 := by rw [hU1]; exact Z5e _ _
 have HU1 := Lib.hid hU1
 clear hU1
 obtain ⟨U2, hU2⟩ := V2 ((J8k 1 [97]).2)
 have HU2 := Lib.hid hU2
 clear hU2
 have hz0 : (U2 : Int) = 0 := by rw [HU2.out]; exact congrArg Nat.cast V63
 obtain ⟨U3, hU3⟩ := V2 (kN 1)
 have bU3 : U3 < 2 ^ 256 := by rw [hU3]; exact Z4z _
 have HU3 := Lib.hid hU3
 clear hU3
 obtain ⟨U4, hU4⟩ := V2 (kD 1)
 have bU4 : U4 < 2 ^ 256 := by rw [hU4]; exact Z50 _
 have HU4 := Lib.hid hU4
 clear hU4
 obtain ⟨U5, hU5⟩ := V2 (kP 1)
 have bU5 : U5 < 2 ^ 256 := by rw [hU5]; exact Z51 _
 have HU5 := Lib.hid hU5
 clear hU5
 obtain ⟨U6, hU6⟩ := V2 ((J6a U5 [97] U1).1)
 have HU6 := Lib.hid hU6
 clear hU6
 obtain ⟨U7, hU7⟩ := V2 ((J6a U5 [97] U1).2)
 have HU7 := Lib.hid hU7
 clear hU7
 have hz1 : (U7 : Int) = 0 := by rw [HU7.out, HU5.out, HU1.out]; exact congrArg Nat.cast V64
 obtain ⟨U8, hU8⟩ := V2 ((J6a U5 [98] U1).1)
 have HU8 := Lib.hid hU8
 clear hU8
 obtain ⟨U9, hU9⟩ := V2 ((J6a U5 [98] U1).2)
 have HU9 := Lib.hid hU9
 clear hU9
 have hz2 : (U9 : Int) = 17 := by rw [HU9.out, HU5.out, HU1.out]; exact congrArg Nat.cast V65
 intro w hG
 have off0 : Off [] w w := Off.refl _ _
 go_enter Tryd.func25, Tryd.ntmps25
 go_upto_region 1 with fail
 refine wp_region_lit ?_
 refine Lw ?_ (v := .agg (J1 .u8 32 (Q6 1))) (hv := by kernel_rfl)
 refine LnA ?_ (z := J1 .u8 32 (Q6 0)) (t := 22) (k := .u8) (n := 32) (f := Q6 1)
 intro J1a W2 J2n hO h_
 replace off0 := off0.o hO
 have k_t1 := h_
 clear hO h_ J2n
 refine J0 ?_
 go_upto_region 2 with fail
 refine wp_region_lit ?_
 refine L0A ?_ k_t1
 refine LnS ?_ (z := #[.int .u8 97]) (t := 5) (n := 1) (c := 1)
 intro Q00 W3 Q2i hO h_
 have Q7r : Value.ownBlock (.slice (some ⟨Q00, 0, none⟩) 1 1) ≠ some J1a := obn k_t1 Q2i
 have Y2r : Fr (Value.ownBlock (.slice (some ⟨Q00, 0, none⟩) 1 1)) w.heap.size [] := frn off0 Q2i
 replace k_t1 := k_t1.o hO
 replace off0 := off0.o hO
 have Y2s : Own W3 (.slice (some ⟨Q00, 0, none⟩) 1 1) [97] := V7 h_ (by rfl) (by show 1 ≤ maxLen; decide)
 clear hO h_ Q2i
 refine Q5z Y2s rfl (by rfl) rfl rfl ?_
 (try simp only [Act.put, mA, mB, mC])
 intro W4 hO V18
 replace k_t1 := K3 k_t1 hO (nmo Q7r)
 replace off0 := off0.step hO (io Y2r)
 clear Y2s Y2r Q7r
 clear hO
 refine Lr ?_ (Z10 hd hb hc HU1.out HU2.out (.slice (some ⟨Q00, 0, none⟩) 1 1) (by first | omega | (simp only [List.length_append, List.length_take, List.length_cons, List.length_nil, J8]; omega)) W4 (Q7 hG off0.ext) V18)
 intro W5 hO
 replace k_t1 := k_t1.o hO
 replace off0 := off0.o hO
 clear hO
 refine Lv ?_
 refine Lv ?_
 refine Lv ?_
 refine LnA ?_ (z := J1 .u8 80 (Q6 0)) (t := 45) (k := .u8) (n := 80) (f := Q6 U1)
 intro V45 W7 U0 hO h_
 replace k_t1 := k_t1.o hO
 replace off0 := off0.o hO
 have k_t2 := h_
 clear hO h_ U0
 refine Lv ?_
 refine J0 ?_
 go_upto_region 3 with fail
 refine wp_region_lit ?_
 refine L0A ?_ k_t1
 refine Lr ?_ (Q0n hd hb HU3.out HU4.out HU5.out W7 (Q7 hG off0.ext))
 intro W8 hO
 replace k_t2 := k_t2.o hO
 replace off0 := off0.o hO
 clear hO
 refine Lw ?_ (v := .agg (J1 .u8 32 (Q6 U5))) (hv := by kernel_rfl)
 refine LnA ?_ (z := J1 .u8 32 (Q6 0)) (t := 22) (k := .u8) (n := 32) (f := Q6 U5)
 intro V66 W10 J10 hO h_
 replace k_t2 := k_t2.o hO
 replace off0 := off0.o hO
 have k_t4 := h_
 clear hO h_ J10
 refine J0 ?_
 go_upto_region 4 with fail
 refine wp_region_lit ?_
 refine L0A ?_ k_t4
 refine LnS ?_ (z := #[.int .u8 97]) (t := 5) (n := 1) (c := 1)
 intro J96 W11 Q7k hO h_
 have Q7s : Value.ownBlock (.slice (some ⟨J96, 0, none⟩) 1 1) ≠ some V45 := obn k_t2 Q7k
 have Q7t : Value.ownBlock (.slice (some ⟨J96, 0, none⟩) 1 1) ≠ some V66 := obn k_t4 Q7k
 have Y2t : Fr (Value.ownBlock (.slice (some ⟨J96, 0, none⟩) 1 1)) w.heap.size [] := frn off0 Q7k
 replace k_t2 := k_t2.o hO
 replace k_t4 := k_t4.o hO
 replace off0 := off0.o hO
 have ow_s22 : Own W11 (.slice (some ⟨J96, 0, none⟩) 1 1) [97] := V7 h_ (by rfl) (by show 1 ≤ maxLen; decide)
 clear hO h_ Q7k
 refine Q5z ow_s22 rfl (by rfl) rfl rfl ?_
 (try simp only [Act.put, mA, mB, mC])
 intro W12 hO V19
 replace k_t2 := K3 k_t2 hO (nmo Q7s)
 replace k_t4 := K3 k_t4 hO (nmo Q7t)
 replace off0 := off0.step hO (io Y2t)
 clear ow_s22 Y2t Q7s Q7t
 clear hO
 refine L0A ?_ k_t2
 refine Lr ?_ (Q0b hd hb hc HU6.out HU7.out bU5 eU1 (.slice (some ⟨J96, 0, none⟩) 1 1) (by first | omega | (simp only [List.length_append, List.length_take, List.length_cons, List.length_nil, J8]; omega)) W12 (Q7 hG off0.ext) V19)
 intro W13 hO
 replace k_t2 := k_t2.o hO
 replace k_t4 := k_t4.o hO
 replace off0 := off0.o hO
 clear hO
 refine Lv ?_
 refine Lv ?_
 refine Lv ?_
 refine LnA ?_ (z := J1 .u8 64 (Q6 0)) (t := 30) (k := .u8) (n := 64) (f := Q6 U6)
 intro V6z W15 J0p hO h_
 replace k_t2 := k_t2.o hO
 replace k_t4 := k_t4.o hO
 replace off0 := off0.o hO
 clear hO h_ J0p
 refine Lv ?_
 refine J0 ?_
 go_upto_region 5 with fail
 refine wp_region_lit ?_
 refine L0A ?_ k_t4
 refine LnS ?_ (z := #[.int .u8 98]) (t := 5) (n := 1) (c := 1)
 intro Q9b W16 Y2u hO h_
 have Q7u : Value.ownBlock (.slice (some ⟨Q9b, 0, none⟩) 1 1) ≠ some V45 := obn k_t2 Y2u
 have Y2v : Fr (Value.ownBlock (.slice (some ⟨Q9b, 0, none⟩) 1 1)) w.heap.size [] := frn off0 Y2u
 replace k_t2 := k_t2.o hO
 replace off0 := off0.o hO
 have Y2w : Own W16 (.slice (some ⟨Q9b, 0, none⟩) 1 1) [98] := V7 h_ (by rfl) (by show 1 ≤ maxLen; decide)
 clear hO h_ Y2u
 refine Q5z Y2w rfl (by rfl) rfl rfl ?_
 (try simp only [Act.put, mA, mB, mC])
 intro W17 hO V1a
 replace k_t2 := K3 k_t2 hO (nmo Q7u)
 replace off0 := off0.step hO (io Y2v)
 clear Y2w Y2v Q7u
 clear hO
 refine L0A ?_ k_t2
 refine Lr ?_ (Q0b hd hb hc HU8.out HU9.out bU5 eU1 (.slice (some ⟨Q9b, 0, none⟩) 1 1) (by first | omega | (simp only [List.length_append, List.length_take, List.length_cons, List.length_nil, J8]; omega)) W17 (Q7 hG off0.ext) V1a)
 intro W18 hO
 replace off0 := off0.o hO
 clear hO
 refine Lv ?_
 refine Lv ?_
 refine Lv ?_
 refine LnA ?_ (z := J1 .u8 64 (Q6 0)) (t := 30) (k := .u8) (n := 64) (f := Q6 U8)
 intro V70 W20 J03 hO h_
 replace off0 := off0.o hO
 clear hO h_ J03
 refine Lv ?_
 refine J0 ?_
 go_upto_region 6 with fail
 refine wp_region_lit ?_
 refine Lv ?_
 refine Lw ?_ (v := .bool true) (hv := by first | (go_simp; done) | (go_simp; simp only [hz0]; done) | (go_simp; simp only [hz0]; decide))
 refine Lw ?_ (v := .bool true)
 refine Lv ?_
 refine Lw ?_ (v := .bool true) (hv := by first | (go_simp; done) | (go_simp; simp only [hz1]; done) | (go_simp; simp only [hz1]; decide))
 refine Lw ?_ (v := .bool true)
 refine Lw ?_ (v := .bool true)
 refine Lv ?_
 refine Lw ?_ (v := .bool true) (hv := by first | (go_simp; done) | (go_simp; simp only [hz2]; done) | (go_simp; simp only [hz2]; decide))
 refine Lw ?_ (v := .bool true)
 refine Lw ?_ (v := .bool true)
 refine J0 ?_
 go_wp2
 exact bodyPost_ret (v := .bool true) (by simp only [results, Tryd.results25]; go_simp) rfl ⟨rfl, off0.ext⟩
end Go.Proofs.YtefpoollmbmkfaaDoor
