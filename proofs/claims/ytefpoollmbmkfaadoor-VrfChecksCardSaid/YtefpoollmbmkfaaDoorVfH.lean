/- custumallaw09: proofs, VrfProves. Conditions: the cells of the variables hold their numbers. -/
import Derived.Test.YtefpoollmbmkfaaDoorGc
import Derived.Test.YtefpoollmbmkfaaDoorVc
import Derived.Test.YtefpoollmbmkfaaDoorSgD
import Derived.Test.YtefpoollmbmkfaaDoorVw
set_option linter.unusedSimpArgs false
set_option linter.unusedVariables false
namespace Go.Proofs.YtefpoollmbmkfaaDoor
set_option maxHeartbeats 2000000
set_option maxRecDepth 100000
open Go.RowKit
attribute [local irreducible] wpList
variable {kn : Kn}
open Sc (LL J2a)
attribute [local irreducible] hs
def Q0o (S : Nat) (L : List UInt8) : Nat × Nat := match vpt (kP S) L with
  | none => (0, 15)
  | some c => (vPr S (J22 (kP S) L c), 0)
def vsm (P : Nat) : Nat × Nat := if dOk (pG P) = true then (Q3w P, 0) else (0, 17)
theorem J6u {S c : Nat} {L : List UInt8} (h : vpt (kP S) L = some c) : Q0o S L = (vPr S (J22 (kP S) L c), 0) := by unfold Q0o; rw [h]
theorem Q7n {S : Nat} {L : List UInt8} (h : vpt (kP S) L = none) : Q0o S L = (0, 15) := by unfold Q0o; rw [h]
theorem Z0u {V c : Nat} {L : List UInt8} (h : J2d V L c = true) : OnC (J22 V L c) := J63 (Z19 (candOk_iff.1 h).1) 8
theorem Y5v (S : Nat) (L : List UInt8) : B80 (Q0o S L).1 := by
  unfold B80
  cases h : vpt (kP S) L with
  | none => rw [Q7n h]; decide +kernel
  | some c => rw [J6u h]; rw [(Q0m (Z0u (Q2c h).2.1)).2.2]; exact Nat.lt_trans (Y7k _ _) J2t
theorem Y2k (hd : kn.d) (hb : kn.b) (hc : kn.c) {X E S : Nat} {L : List UInt8} (hX : X = (Q0o S L).1) (hE : E = (Q0o S L).2) (v : Value) (hL : L.length ≤ 1099511627776) (w : World) (hG : GA kn w) (hs : Sl w v L) :
    Calls Tryd.prog 23 #[.agg (J1 .u8 32 (Q6 S)), v] w fun e w' => Ret (.tuple #[.agg (J1 .u8 80 (Q6 X)), .int .i64 (E : Int)]) w w' e := by
  subst hX hE
  cases h : vpt (kP S) L with
  | none => rw [Q7n h]; exact Y5l hd hb hc S v L hL h w hG hs
  | some c => rw [J6u h]; exact Y5k hd hb hc S c v L hL h rfl w hG hs
theorem Q6b (hd : kn.d) (hb : kn.b) (hc : kn.c) {X E V P : Nat} {L : List UInt8} (hX : X = (J79 V L P).1) (hE : E = (J79 V L P).2) (hV : V < 2 ^ 256) (hP : B80 P) (v : Value) (hL : L.length ≤ 1099511627776) (w : World) (hG : GA kn w) (hs : Sl w v L) :
    Calls Tryd.prog 26 #[.agg (J1 .u8 32 (Q6 V)), v, .agg (J1 .u8 80 (Q6 P))] w fun e w' => Ret (.tuple #[.agg (J1 .u8 64 (Q6 X)), .int .i64 (E : Int)]) w w' e := by
  subst hX hE; exact Y5q hd hb hc rfl hV hP v hL w hG hs
theorem Z7a {X E V P : Nat} {L : List UInt8} (hX : X = (J79 V L P).1) (hE : E = (J79 V L P).2) (hV : V < 2 ^ 256) (hP : B80 P) (hL : L.length ≤ 1099511627776) (w : World) (hG : GR w) :
    Calls Tryd.prog 28 #[str (lb 32 V), str L, str (lb 80 P)] w fun e w' => Ret (.tuple #[str (lb 64 X), .int .i64 (E : Int)]) w w' e := by
  subst hX hE; exact Y2i rfl hV hP hL w hG
theorem Y5w (hc : kn.c) {X E P : Nat} (hX : X = (vsm P).1) (hE : E = (vsm P).2) (w : World) (hG : GA kn w) :
    Calls Tryd.prog 27 #[.agg (J1 .u8 80 (Q6 P))] w fun e w' => Ret (.tuple #[.agg (J1 .u8 64 (Q6 X)), .int .i64 (E : Int)]) w w' e := by
  subst hX hE
  unfold vsm
  cases h : dOk (pG P)
  · rw [if_neg (by decide)]; exact V0n hc h w hG
  · rw [if_pos rfl]; exact Y1u hc h rfl w hG
theorem Y2l {X E P : Nat} (hX : X = (vsm P).1) (hE : E = (vsm P).2) (w : World) (hG : GR w) :
    Calls Tryd.prog 29 #[str (lb 80 P)] w fun e w' => Ret (.tuple #[str (lb 64 X), .int .i64 (E : Int)]) w w' e := by
  subst hX hE
  unfold vsm
  cases h : dOk (pG P)
  · rw [if_neg (by decide)]; exact Y5t h w hG
  · rw [if_pos rfl]; exact Z53 h rfl w hG
theorem Z54 {V P c : Nat} {L : List UInt8} (h1 : dOk V = true) (h2 : ¬ pm (dPt V) 8 = p0) (h3 : dOk (pG P) = true) (h4 : pN P < LL) (h5 : vpt V L = some c) : (Q2f V P (J22 V L c) → J79 V L P = (Q3w P, 0)) ∧ (¬ Q2f V P (J22 V L c) → J79 V L P = (0, 17)) := by
  have e : J79 V L P = if chk V P (J22 V L c) = pC P then (Q3w P, 0) else (0, 17) := by
    unfold J79
    rw [if_neg (by rintro (h | h); rw [h1] at h; cases h; exact h2 h), if_neg (by rintro (h | h); rw [h3] at h; cases h; exact absurd h (Nat.not_le.2 h4)), h5]
  rw [e]
  exact ⟨fun h => if_pos h, fun h => if_neg h⟩
theorem V5v : (Q0o 1 [97]).2 = 0 := by rw [J6u vpa]
theorem pf_key : dOk (pG (Q0o 1 [97]).1) = true ∧ pN (Q0o 1 [97]).1 < LL := by
  rw [J6u vpa]
  have hon := Z0u (Q2c vpa).2.1
  obtain ⟨e1, -, e3⟩ := Q0m (S := 1) hon
  exact ⟨by rw [e1]; exact (J8p (J63 hon _)).1, by rw [e3]; exact Y7k _ _⟩
theorem V5w : (J79 (kP 1) [97] (Q0o 1 [97]).1).2 = 0 := by
  have h := (Z54 key1.1 key1.2 pf_key.1 pf_key.2 vpa).1
  rw [J6u vpa] at h ⊢
  rw [h V0y]
theorem V5x : (J79 (kP 1) [98] (Q0o 1 [97]).1).2 = 17 := by
  have h := (Z54 key1.1 key1.2 pf_key.1 pf_key.2 vpb).2
  rw [J6u vpa] at h ⊢
  rw [h V0z]
attribute [local irreducible] Q0o J79

theorem Y2m (hd : kn.d) (hb : kn.b) (hc : kn.c) :
  ∀ w, GA kn w → Calls Tryd.prog 25 #[] w fun e w' => Ret (.bool true) w w' e := by
 obtain ⟨U1, hU1⟩ := V2 ((Q0o 1 [97]).1)
 have eU1 : B80 U1 := by rw [hU1]; exact Y5v _ _
 have HU1 := Lib.hid hU1
 clear hU1
 obtain ⟨U2, hU2⟩ := V2 ((Q0o 1 [97]).2)
 have HU2 := Lib.hid hU2
 clear hU2
 have hz0 : (U2 : Int) = 0 := by rw [HU2.out]; exact congrArg Nat.cast V5v
 obtain ⟨U3, hU3⟩ := V2 (kN 1)
 have bU3 : U3 < 2 ^ 256 := by rw [hU3]; exact Y1h _
 have HU3 := Lib.hid hU3
 clear hU3
 obtain ⟨U4, hU4⟩ := V2 (kD 1)
 have bU4 : U4 < 2 ^ 256 := by rw [hU4]; exact Y1i _
 have HU4 := Lib.hid hU4
 clear hU4
 obtain ⟨U5, hU5⟩ := V2 (kP 1)
 have bU5 : U5 < 2 ^ 256 := by rw [hU5]; exact Y1j _
 have HU5 := Lib.hid hU5
 clear hU5
 obtain ⟨U6, hU6⟩ := V2 ((J79 U5 [97] U1).1)
 have HU6 := Lib.hid hU6
 clear hU6
 obtain ⟨U7, hU7⟩ := V2 ((J79 U5 [97] U1).2)
 have HU7 := Lib.hid hU7
 clear hU7
 have hz1 : (U7 : Int) = 0 := by rw [HU7.out, HU5.out, HU1.out]; exact congrArg Nat.cast V5w
 obtain ⟨U8, hU8⟩ := V2 ((J79 U5 [98] U1).1)
 have HU8 := Lib.hid hU8
 clear hU8
 obtain ⟨U9, hU9⟩ := V2 ((J79 U5 [98] U1).2)
 have HU9 := Lib.hid hU9
 clear hU9
 have hz2 : (U9 : Int) = 17 := by rw [HU9.out, HU5.out, HU1.out]; exact congrArg Nat.cast V5x
 intro w hG
 have off0 : Off [] w w := Off.refl _ _
 go_enter Tryd.func25, Tryd.ntmps25
 go_upto_region 1 with fail
 refine wp_region_lit ?_
 refine Lw ?_ (v := .agg (J1 .u8 32 (Q6 1))) (hv := by kernel_rfl)
 refine LnA ?_ (z := J1 .u8 32 (Q6 0)) (t := 22) (k := .u8) (n := 32) (f := Q6 1)
 intro J15 W2 J27 hO h_
 replace off0 := off0.o hO
 have k_t1 := h_
 clear hO h_ J27
 refine J0 ?_
 go_upto_region 2 with fail
 refine wp_region_lit ?_
 refine L0A ?_ k_t1
 refine LnS ?_ (z := #[.int .u8 97]) (t := 5) (n := 1) (c := 1)
 intro J9z W3 Q2b hO h_
 have Q7o : Value.ownBlock (.slice (some ⟨J9z, 0, none⟩) 1 1) ≠ some J15 := obn k_t1 Q2b
 have Y2n : Fr (Value.ownBlock (.slice (some ⟨J9z, 0, none⟩) 1 1)) w.heap.size [] := frn off0 Q2b
 replace k_t1 := k_t1.o hO
 replace off0 := off0.o hO
 have Y2o : Own W3 (.slice (some ⟨J9z, 0, none⟩) 1 1) [97] := V8 h_ (by rfl) (by show 1 ≤ maxLen; decide)
 clear hO h_ Q2b
 refine Q5v Y2o rfl (by rfl) rfl rfl ?_
 (try simp only [Act.put, mA, mB, mC])
 intro W4 hO V10
 replace k_t1 := U0 k_t1 hO (nmo Q7o)
 replace off0 := off0.step hO (io Y2n)
 clear Y2o Y2n Q7o
 clear hO
 refine Lr ?_ (Y2k hd hb hc HU1.out HU2.out (.slice (some ⟨J9z, 0, none⟩) 1 1) (by first | omega | (simp only [List.length_append, List.length_take, List.length_cons, List.length_nil, J8]; omega)) W4 (Q9 hG off0.ext) V10)
 intro W5 hO
 replace k_t1 := k_t1.o hO
 replace off0 := off0.o hO
 clear hO
 refine Lv ?_
 refine Lv ?_
 refine Lv ?_
 refine LnA ?_ (z := J1 .u8 80 (Q6 0)) (t := 45) (k := .u8) (n := 80) (f := Q6 U1)
 intro V3z W7 K7 hO h_
 replace k_t1 := k_t1.o hO
 replace off0 := off0.o hO
 have k_t2 := h_
 clear hO h_ K7
 refine Lv ?_
 refine J0 ?_
 go_upto_region 3 with fail
 refine wp_region_lit ?_
 refine L0A ?_ k_t1
 refine Lr ?_ (Q32 hd hb HU3.out HU4.out HU5.out W7 (Q9 hG off0.ext))
 intro W8 hO
 replace k_t2 := k_t2.o hO
 replace off0 := off0.o hO
 clear hO
 refine Lw ?_ (v := .agg (J1 .u8 32 (Q6 U5))) (hv := by kernel_rfl)
 refine LnA ?_ (z := J1 .u8 32 (Q6 0)) (t := 22) (k := .u8) (n := 32) (f := Q6 U5)
 intro V5y W10 J0u hO h_
 replace k_t2 := k_t2.o hO
 replace off0 := off0.o hO
 have k_t4 := h_
 clear hO h_ J0u
 refine J0 ?_
 go_upto_region 4 with fail
 refine wp_region_lit ?_
 refine L0A ?_ k_t4
 refine LnS ?_ (z := #[.int .u8 97]) (t := 5) (n := 1) (c := 1)
 intro J92 W11 Q7g hO h_
 have Q7p : Value.ownBlock (.slice (some ⟨J92, 0, none⟩) 1 1) ≠ some V3z := obn k_t2 Q7g
 have Q7q : Value.ownBlock (.slice (some ⟨J92, 0, none⟩) 1 1) ≠ some V5y := obn k_t4 Q7g
 have Y2p : Fr (Value.ownBlock (.slice (some ⟨J92, 0, none⟩) 1 1)) w.heap.size [] := frn off0 Q7g
 replace k_t2 := k_t2.o hO
 replace k_t4 := k_t4.o hO
 replace off0 := off0.o hO
 have ow_s22 : Own W11 (.slice (some ⟨J92, 0, none⟩) 1 1) [97] := V8 h_ (by rfl) (by show 1 ≤ maxLen; decide)
 clear hO h_ Q7g
 refine Q5v ow_s22 rfl (by rfl) rfl rfl ?_
 (try simp only [Act.put, mA, mB, mC])
 intro W12 hO V11
 replace k_t2 := U0 k_t2 hO (nmo Q7p)
 replace k_t4 := U0 k_t4 hO (nmo Q7q)
 replace off0 := off0.step hO (io Y2p)
 clear ow_s22 Y2p Q7p Q7q
 clear hO
 refine L0A ?_ k_t2
 refine Lr ?_ (Q6b hd hb hc HU6.out HU7.out bU5 eU1 (.slice (some ⟨J92, 0, none⟩) 1 1) (by first | omega | (simp only [List.length_append, List.length_take, List.length_cons, List.length_nil, J8]; omega)) W12 (Q9 hG off0.ext) V11)
 intro W13 hO
 replace k_t2 := k_t2.o hO
 replace k_t4 := k_t4.o hO
 replace off0 := off0.o hO
 clear hO
 refine Lv ?_
 refine Lv ?_
 refine Lv ?_
 refine LnA ?_ (z := J1 .u8 64 (Q6 0)) (t := 30) (k := .u8) (n := 64) (f := Q6 U6)
 intro V6q W15 J0k hO h_
 replace k_t2 := k_t2.o hO
 replace k_t4 := k_t4.o hO
 replace off0 := off0.o hO
 clear hO h_ J0k
 refine Lv ?_
 refine J0 ?_
 go_upto_region 5 with fail
 refine wp_region_lit ?_
 refine L0A ?_ k_t4
 refine LnS ?_ (z := #[.int .u8 98]) (t := 5) (n := 1) (c := 1)
 intro Q96 W16 Y2q hO h_
 have Q7r : Value.ownBlock (.slice (some ⟨Q96, 0, none⟩) 1 1) ≠ some V3z := obn k_t2 Y2q
 have Y2r : Fr (Value.ownBlock (.slice (some ⟨Q96, 0, none⟩) 1 1)) w.heap.size [] := frn off0 Y2q
 replace k_t2 := k_t2.o hO
 replace off0 := off0.o hO
 have Y2s : Own W16 (.slice (some ⟨Q96, 0, none⟩) 1 1) [98] := V8 h_ (by rfl) (by show 1 ≤ maxLen; decide)
 clear hO h_ Y2q
 refine Q5v Y2s rfl (by rfl) rfl rfl ?_
 (try simp only [Act.put, mA, mB, mC])
 intro W17 hO V12
 replace k_t2 := U0 k_t2 hO (nmo Q7r)
 replace off0 := off0.step hO (io Y2r)
 clear Y2s Y2r Q7r
 clear hO
 refine L0A ?_ k_t2
 refine Lr ?_ (Q6b hd hb hc HU8.out HU9.out bU5 eU1 (.slice (some ⟨Q96, 0, none⟩) 1 1) (by first | omega | (simp only [List.length_append, List.length_take, List.length_cons, List.length_nil, J8]; omega)) W17 (Q9 hG off0.ext) V12)
 intro W18 hO
 replace off0 := off0.o hO
 clear hO
 refine Lv ?_
 refine Lv ?_
 refine Lv ?_
 refine LnA ?_ (z := J1 .u8 64 (Q6 0)) (t := 30) (k := .u8) (n := 64) (f := Q6 U8)
 intro V6r W20 J04 hO h_
 replace off0 := off0.o hO
 clear hO h_ J04
 refine Lv ?_
 refine J0 ?_
 go_upto_region 6 with fail
 refine wp_region_lit ?_
 refine Lv ?_
 refine Lw ?_ (v := .bool true) (hv := by first | (go_simp; done) | (go_simp; simp only [hz0]; done) | (go_simp; simp only [hz0]; decide))
 refine Lw ?_ (v := .bool true)
 refine Lv ?_
 refine Lw ?_ (v := .bool true) (hv := by first | (go_simp; done) | (go_simp; simp only [hz1]; done) | (go_simp; simp only [hz1]; decide))
 refine Lw ?_ (v := .bool true)
 refine Lw ?_ (v := .bool true)
 refine Lv ?_
 refine Lw ?_ (v := .bool true) (hv := by first | (go_simp; done) | (go_simp; simp only [hz2]; done) | (go_simp; simp only [hz2]; decide))
 refine Lw ?_ (v := .bool true)
 refine Lw ?_ (v := .bool true)
 refine J0 ?_
 go_wp2
 exact bodyPost_ret (v := .bool true) (by simp only [results, Tryd.results25]; go_simp) rfl ⟨rfl, off0.ext⟩
end Go.Proofs.YtefpoollmbmkfaaDoor
