/- custumallaw09: VrfBent. Conditions: the cells of the variables hold their numbers. -/
import Derived.Test.YtefpoollmbmkfaaDoorGc
import Derived.Test.YtefpoollmbmkfaaDoorVfH
import Derived.Test.YtefpoollmbmkfaaDoorSgF
import Derived.Test.YtefpoollmbmkfaaDoorRowKitW
set_option linter.unusedSimpArgs false
set_option linter.unusedVariables false
namespace Go.Proofs.YtefpoollmbmkfaaDoor
set_option maxHeartbeats 3000000
set_option maxRecDepth 100000
open Go.RowKit
attribute [local irreducible] wpList
variable {kn : Kn}
open Sc (LL J21)
attribute [local irreducible] hs J8k J6a
theorem Q9c (S : Nat) (L : List UInt8) : (J8k S L).2 = 0 ∨ (J8k S L).2 = 15 := by
  cases h : vpt (kP S) L with
  | none => rw [Q3j h]; exact Or.inr rfl
  | some c => rw [J5s h]; exact Or.inl rfl
theorem V46 {x : Int} (h : J4m x) : ∃ b : UInt8, (b.toNat : Int) = x := by
  obtain ⟨h0, h1⟩ := h
  exact ⟨UInt8.ofNat x.toNat, by rw [UInt8.toNat_ofNat', Nat.mod_eq_of_lt (by omega)]; omega⟩
theorem Y2x {w : World} {v : Value} {l : List UInt8} (h : Own w v l) (hl : 0 < l.length) : ∃ (g cap : Nat) (cur : Array Value), v = .slice (some ⟨g, 0, none⟩) l.length cap ∧ Blk w g cur 5 ∧ v.ownBlock = some g ∧
    (∀ (j : Nat) (x : UInt8), l[j]? = some x → cur[j]? = some (Value.int .u8 (x.toNat : Int))) ∧ (∀ (W : World) (j : Nat) (x : UInt8), j < l.length → Blk W g (cur.setIfInBounds j (.int .u8 (x.toNat : Int))) 5 → Own W v (l.set j x)) := by
  rcases h.2 with ⟨rfl, hn⟩ | ⟨g, cap, cur, rfl, hb, hh, hc, hm, hs, ht⟩
  · omega
  · refine ⟨g, cap, cur, rfl, hh, rfl, fun j x hj => ?_, fun W j x hj hB => ?_⟩
    · have hlt := (List.getElem?_eq_some_iff.1 hj).1
      have e := Q4g hj
      rw [← ht, List.getElem?_take_of_lt (by omega)] at e
      simpa using e
    · have hlen : (l.set j x).length = l.length := List.length_set ..
      refine ⟨by rw [J0o, Nat.mul_one], .inr ⟨g, cap, cur.setIfInBounds j (.int .u8 (x.toNat : Int)), by rw [hlen], hb, hB, by rw [hlen]; exact hc, hm, by rw [Array.size_setIfInBounds]; exact hs, ?_⟩⟩
      rw [hlen, Array.toList_setIfInBounds, List.take_set, ht]
      unfold bs8
      rw [List.map_set]

theorem Z6o (hd : kn.d) (hb : kn.b) (hc : kn.c) (hr : kn.r) (S : Nat) (v : Value) (L M : List UInt8) (C : Int) (hL : L.length ≤ 9223372036854775807) (hM : List.take (min L.length 60) L = M) (hMl : M.length ≤ 60) :
  ∀ w, GA kn w → Sl w v L → Calls Tryd.prog 10 #[.agg (J1 .u8 32 (Q6 S)), v, .int .i64 C] w fun e w' => Ret (.bool true) w w' e := by
 obtain ⟨X, hx⟩ : ∃ X : Nat, C % 18446744073709551616 = (X : Int) := ⟨(C % 18446744073709551616).toNat, by omega⟩
 have hx2 : IntKind.wrap .u64 C = (X : Int) := by rw [IntKind.wrap_u64]; exact hx
 have hX : X < 18446744073709551616 := by omega
 clear hx
 obtain ⟨cb, hcb⟩ := V2 (2 ^ (X % 8))
 have HC := Lib.hid hcb
 clear hcb
 obtain ⟨k, hkk⟩ := V2 (X / 8 % 113)
 have hk113 : k < 113 := by rw [hkk]; exact Nat.mod_lt _ (by decide)
 have HK := Lib.hid hkk
 clear hkk
 obtain ⟨T, hT⟩ : ∃ T, T = M ++ [5] := ⟨_, rfl⟩
 have hTl : T.length ≤ 61 := by rw [hT, List.length_append, List.length_cons, List.length_nil]; omega
 have hT0 : 0 < T.length := by rw [hT, List.length_append, List.length_cons, List.length_nil]; omega
 have HT := Lib.hid hT
 clear hT
 obtain ⟨x0, hx0⟩ : ∃ x0, T[0]? = some x0 := ⟨T[0], List.getElem?_eq_getElem hT0⟩
 obtain ⟨xb, hxb⟩ := V46 (Z1z (x0.toNat : Int) (cb : Int))
 have HXB := Lib.hid hxb
 clear hxb
 obtain ⟨T2, hT2⟩ : ∃ T2, T2 = T.set 0 xb := ⟨_, rfl⟩
 have hTl2 : T2.length ≤ 61 := by rw [hT2, List.length_set]; exact hTl
 have HT2 := Lib.hid hT2
 clear hT2
 obtain ⟨U1, hU1⟩ := V2 ((J8k S T).1)
 have eU1 : B80 U1 := by rw [hU1]; exact Z5e _ _
 have HU1 := Lib.hid hU1
 clear hU1
 obtain ⟨U2, hU2⟩ := V2 ((J8k S T).2)
 have HU2 := Lib.hid hU2
 clear hU2
 obtain ⟨U3, hU3⟩ := V2 (kN S)
 have bU3 : U3 < 2 ^ 256 := by rw [hU3]; exact Z4z _
 have HU3 := Lib.hid hU3
 clear hU3
 obtain ⟨U4, hU4⟩ := V2 (kD S)
 have bU4 : U4 < 2 ^ 256 := by rw [hU4]; exact Z50 _
 have HU4 := Lib.hid hU4
 clear hU4
 obtain ⟨U5, hU5⟩ := V2 (kP S)
 have bU5 : U5 < 2 ^ 256 := by rw [hU5]; exact Z51 _
 have HU5 := Lib.hid hU5
 clear hU5
 obtain ⟨U10, hU10⟩ := V2 ((J6a U5 T2 U1).1)
 have HU10 := Lib.hid hU10
 clear hU10
 obtain ⟨U11, hU11⟩ := V2 ((J6a U5 T2 U1).2)
 have HU11 := Lib.hid hU11
 clear hU11
 intro w hG hs
 have Q5 := hs
 have off0 : Off [] w w := Off.refl _ _
 go_enter Tryd.func10, Tryd.ntmps10
 go_upto_region 0 with fail
 refine wp_region_lit ?_
 refine Ln ?_ (z := J1 .u8 32 (Q6 S)) (t := 22)
 intro J2e W1 J13 hO h_
 replace Q5 := Sl.off Q5 hO f0
 replace off0 := off0.o hO
 have k_t3 := h_
 clear hO h_ J13
 refine Lw ?_ (v := .bool false)
 refine J0 ?_
 go_upto_region 1 with fail
 refine wp_region_lit ?_
 refine LnS ?_ (z := #[]) (t := 5) (n := 0) (c := 0)
 intro Y2y W2 Y2z hO h_
 have Q7v : Value.ownBlock (.slice (some ⟨Y2y, 0, none⟩) 0 0) ≠ some J2e := obn k_t3 Y2z
 have Y30 : Fr (Value.ownBlock (.slice (some ⟨Y2y, 0, none⟩) 0 0)) w.heap.size [] := frn off0 Y2z
 replace k_t3 := k_t3.o hO
 replace Q5 := Sl.off Q5 hO f0
 replace off0 := off0.o hO
 have V1b : Own W2 (.slice (some ⟨Y2y, 0, none⟩) 0 0) [] := V7 h_ (by rfl) (by show 0 ≤ maxLen; decide)
 clear hO h_ Y2z
 refine Lv ?_
 refine Lv ?_
 refine J5w (l := L) Q5 (by rfl) rfl rfl ?_
 (try simp only [Act.put, mA, mB, mC])
 refine Lw ?_ (v := .int .i64 ((min L.length 60 : Nat) : Int)) (hv := by go_simp; (try omega))
 refine Z9t (n := min L.length 60) Q5 (by omega) (by rfl) rfl rfl rfl ?_
 (try simp only [Act.put, mA, mB, mC])
 intro V71 Y31 V54 V47
 refine J0b (xs := []) (ys := (List.take (min L.length 60) L)) (by rfl) rfl rfl rfl V1b Y31 (by first | omega | (simp only [List.length_append, List.length_take, List.length_cons, List.length_nil, J8]; omega)) ?_
 (try simp only [Act.put, mA, mB, mC])
 intro V72 W3 Q9d hO Z31 nil_a22
 clear nil_a22
 have Z7n := J15 Z31 Q7v (J5 k_t3)
 have Y32 := J0i Z31 Y30 off0.size
 replace k_t3 := K3 k_t3 hO (nmo Q7v)
 replace off0 := off0.step hO (io Y30)
 clear hO Z31
 rw [List.nil_append, hM] at Q9d
 clear Y31
 refine LnS ?_ (z := #[.int .u8 5]) (t := 5) (n := 1) (c := 1)
 intro V48 W4 J7k hO h_
 replace k_t3 := k_t3.o hO
 replace Q9d := Own.off Q9d hO f0
 replace off0 := off0.o hO
 have ow_s23 : Own W4 (.slice (some ⟨V48, 0, none⟩) 1 1) [5] := V7 h_ (by rfl) (by show 1 ≤ maxLen; decide)
 clear hO h_ J7k
 refine J0b (xs := M) (ys := [5]) (by rfl) rfl rfl rfl Q9d (ow_s23.sl) (by first | omega | (simp only [List.length_append, List.length_take, List.length_cons, List.length_nil, J8]; omega)) ?_
 (try simp only [Act.put, mA, mB, mC])
 intro Q7w W5 ow_a24 hO J0u nil_a24
 clear nil_a24
 have J94 := J0i J0u Y32 off0.size
 replace k_t3 := K3 k_t3 hO (nmo Z7n)
 replace off0 := off0.step hO (io Y32)
 clear hO J0u
 rw [← HT.out] at ow_a24
 refine Lv ?_
 refine J0 ?_
 go_upto_region 2 with fail
 refine wp_region_lit ?_
 refine L0A ?_ k_t3
 refine Lv ?_
 refine Lr ?_ (Z10 hd hb hc HU1.out HU2.out Q7w (by first | omega | (simp only [List.length_append, List.length_take, List.length_cons, List.length_nil, J8]; omega)) W5 (Q7 hG off0.ext) (ow_a24.sl))
 intro W6 hO
 replace k_t3 := k_t3.o hO
 replace ow_a24 := Own.off ow_a24 hO f0
 replace off0 := off0.o hO
 clear hO
 refine Lv ?_
 refine Lv ?_
 refine Lv ?_
 refine LnA ?_ (z := J1 .u8 80 (Q6 0)) (t := 45) (k := .u8) (n := 80) (f := Q6 U1)
 intro J97 W8 J03 hO h_
 have J6y := J0m (Own.lt ow_a24) J03
 have J55 := fbn off0 J03
 replace k_t3 := k_t3.o hO
 replace ow_a24 := Own.off ow_a24 hO f0
 replace off0 := off0.o hO
 have k_t7 := h_
 clear hO h_ J03
 refine Lv ?_
 refine J0 ?_
 go_upto_region 3 with fail
 refine wp_region_lit ?_
 refine L0A ?_ k_t3
 refine Lr ?_ (Q0n hd hb HU3.out HU4.out HU5.out W8 (Q7 hG off0.ext))
 intro W9 hO
 replace k_t7 := k_t7.o hO
 replace ow_a24 := Own.off ow_a24 hO f0
 replace off0 := off0.o hO
 clear hO
 refine Lw ?_ (v := .agg (J1 .u8 32 (Q6 U5))) (hv := by kernel_rfl)
 refine LnA ?_ (z := J1 .u8 32 (Q6 0)) (t := 22) (k := .u8) (n := 32) (f := Q6 U5)
 intro J5j W11 J2o hO h_
 have nq_t7_t9 := bn k_t7 J2o
 have Q7x := J0m (Own.lt ow_a24) J2o
 have Q1n := fbn off0 J2o
 replace k_t7 := k_t7.o hO
 replace ow_a24 := Own.off ow_a24 hO f0
 replace off0 := off0.o hO
 have k_t9 := h_
 clear hO h_ J2o
 refine J0 ?_
 go_upto_region 4 with fail
 refine wp_region_lit ?_
 refine Lv ?_
 refine Lw ?_ (v := .int .u64 ((X : Int))) (hv := by go_simp)
 refine Lw ?_ (v := .int .u64 (((X % 8 : Nat) : Int))) (hv := by exact Q7b (i := X) (m := 8) (by decide) hX rfl rfl rfl)
 refine Lw ?_ (v := .int .u8 ((cb : Int))) (hv := by rw [HC.out]; exact Y5b (b := X % 8) (Nat.mod_lt _ (by decide)) rfl rfl rfl)
 refine Lv ?_
 refine J0 ?_
 go_upto_region 5 with fail
 refine wp_region_lit ?_
 refine Lv ?_
 refine Lw ?_ (v := .int .u64 ((X : Int))) (hv := by go_simp)
 refine Lw ?_ (v := .int .u64 (((X / 8 : Nat) : Int))) (hv := by exact Z6s (i := X) (m := 8) (by decide) hX rfl rfl rfl)
 refine Lw ?_ (v := .int .u64 ((k : Int))) (hv := by rw [HK.out]; exact Q7b (i := X / 8) (m := 113) (by decide) (Nat.lt_of_le_of_lt (Nat.div_le_self _ _) hX) rfl rfl rfl)
 refine Lw ?_ (v := .int .i64 ((k : Int))) (hv := by go_simp; (try simp only [IntKind.wrap_i64]); (try omega))
 refine Lv ?_
 refine J0 ?_
 by_cases hk : k < 80
 ·
  have _f := hk
  go_upto_region 7 with fail
  refine wp_region_lit ?_
  refine Lv ?_
  refine Lw ?_ (v := .bool true) (hv := by exact Q4k (i := k) (n := 80) (decide_eq_true hk) rfl rfl rfl)
  refine Lw ?_ (v := .bool true)
  refine J0 ?_
  go_upto_region 8 with fail
  refine wp_region_lit ?_
  refine Lv ?_
  refine Lw ?_ (v := .pointer (some ⟨J97, 0 + k, none⟩)) (hv := Q0 (m := 80) (by decide) (by omega) Tryd.underlying45 (by kernel_rfl) rfl rfl rfl)
  refine Lg ?_ k_t7 (v := .int .u8 ((Q6 U1) k)) (hj := by rw [Nat.zero_add]; exact J6 _ _ _ _ (by omega))
  refine Lv ?_
  obtain ⟨xv, hxv⟩ := exi (bits .xor .u8 ((Q6 U1) k) (cb : Int))
  have oxv : J4m xv := by rw [hxv]; exact Z1z _ _
  have HXV := Lib.hid hxv
  clear hxv
  refine Lw ?_ (v := .int .u8 xv) (hv := by rw [HXV.out]; exact Q63 rfl rfl rfl)
  refine Lw ?_ (v := .pointer (some ⟨J97, 0 + k, none⟩)) (hv := Q0 (m := 80) (by decide) (by omega) Tryd.underlying45 (by kernel_rfl) rfl rfl rfl)
  refine J2i (v := .int .u8 xv) ⟨rfl, rfl⟩ (by rfl) rfl rfl rfl k_t7 (by rw [Q1, Nat.zero_add]; omega) (by kernel_rfl) ?_
  (try simp only [Act.put, mA, mB, mC])
  intro W12 hO h_
  rw [Nat.zero_add, J04] at h_
  replace k_t7 : Blk W12 J97 (J1 .u8 80 (upd (Q6 U1) k xv)) 45 := h_
  clear h_
  replace k_t9 := k_t9.p hO nq_t7_t9.symm
  replace ow_a24 := Own.off ow_a24 hO (f1 J6y)
  replace off0 := off0.p hO J55
  clear hO
  obtain ⟨Gz, lGz, eGz⟩ := Z4o 80 U1 k oxv
  rw [show J1 .u8 80 (upd (Q6 U1) k xv) = J1 .u8 80 (Q6 Gz) from eGz] at k_t7
  have eGz : B80 Gz := Y9i rfl lGz
  refine J0 ?_
  go_upto_region 11 with fail
  refine wp_region_lit ?_
  refine L0A ?_ k_t9
  refine Lv ?_
  refine L0A ?_ k_t7
  obtain ⟨U6, hU6⟩ := V2 ((J6a U5 T Gz).1)
  have HU6 := Lib.hid hU6
  clear hU6
  obtain ⟨U7, hU7⟩ := V2 ((J6a U5 T Gz).2)
  have HU7 := Lib.hid hU7
  clear hU7
  refine Lr ?_ (Q0b hd hb hc HU6.out HU7.out bU5 eGz Q7w (by first | omega | (simp only [List.length_append, List.length_take, List.length_cons, List.length_nil, J8]; omega)) W12 (Q7 hG off0.ext) (ow_a24.sl))
  intro W13 hO
  replace k_t7 := k_t7.o hO
  replace k_t9 := k_t9.o hO
  replace ow_a24 := Own.off ow_a24 hO f0
  replace off0 := off0.o hO
  clear hO
  refine Lv ?_
  refine Lv ?_
  refine Lv ?_
  refine LnA ?_ (z := J1 .u8 64 (Q6 0)) (t := 30) (k := .u8) (n := 64) (f := Q6 U6)
  intro Q0c W15 J24 hO h_
  replace k_t7 := k_t7.o hO
  replace k_t9 := k_t9.o hO
  replace ow_a24 := Own.off ow_a24 hO f0
  replace off0 := off0.o hO
  have k_t12 := h_
  clear hO h_ J24
  refine Lv ?_
  refine J0 ?_
  go_upto_region 12 with fail
  refine Rx 12 ?_
  refine Xw ?_ (v := .slice (some ⟨J5j, 0, none⟩) 32 32)
  refine J3a (l := (lb 32 U5)) (fun W hW => (J0j (V := U5) (n := 32) (off := 0) (J2 k_t9 hW) ap0 (by decide) (by decide))) (by rfl) rfl rfl ?_
  (try simp only [Act.put, mA, mB, mC])
  refine Xv ?_
  refine J3a (l := T) (fun W hW => J8r (ow_a24.sl) hW) (by rfl) rfl rfl ?_
  (try simp only [Act.put, mA, mB, mC])
  refine Xw ?_ (v := .slice (some ⟨J97, 0, none⟩) 80 80)
  refine J3a (l := (lb 80 Gz)) (fun W hW => (J0j (V := Gz) (n := 80) (off := 0) (J2 k_t7 hW) ap0 (by decide) (by decide))) (by rfl) rfl rfl ?_
  (try simp only [Act.put, mA, mB, mC])
  refine Xf ?_ (fun W hW => Q3k HU6.out HU7.out bU5 eGz (by first | omega | (simp only [List.length_append, List.length_take, List.length_cons, List.length_nil, J8]; omega)) W ((Q7 (Q7 hG off0.ext) hW).2.2.2 hr))
  refine Xv ?_
  refine Xv ?_
  refine Xv ?_
  refine Xv ?_
  refine Xv ?_
  refine Q3 fun W16 hE => ?_
  have hO := Z6 hE
  replace k_t7 := k_t7.o hO
  replace k_t9 := k_t9.o hO
  replace k_t12 := k_t12.o hO
  replace ow_a24 := Own.off ow_a24 hO f0
  replace off0 := off0.o hO
  clear hO hE
  refine LN ?_
  by_cases h0 : U2 = 0
  ·
   have _f := h0
   have hz0 : (U2 : Int) = 0 := by rw [h0]; rfl
   clear h0
   go_upto_region 13 with fail
   refine wp_region_lit ?_
   refine Lr ?_ (J8l hd hb hc W16 (Q7 hG off0.ext))
   intro W17 hO
   replace k_t7 := k_t7.o hO
   replace k_t9 := k_t9.o hO
   replace k_t12 := k_t12.o hO
   replace ow_a24 := Own.off ow_a24 hO f0
   replace off0 := off0.o hO
   clear hO
   refine Lw ?_ (v := .bool true)
   refine Lv ?_
   refine Lw ?_ (v := .bool true) (hv := by first | (go_simp; done) | (go_simp; simp only [hz0]; done) | (go_simp; simp only [hz0]; decide))
   refine Lw ?_ (v := .bool true)
   refine Ls ?_
   refine Ls ?_
   refine Lw ?_ (v := .bool true)
   refine Lw ?_ (v := .bool true)
   refine Lw ?_ (v := .bool true)
   refine Lw ?_ (v := .slice (some ⟨Q0c, 0, none⟩) 64 64) (hv := by first | rfl | (go_simp; done) | (go_simp; with_reducible rfl))
   refine J2l (l := (lb 64 U6)) (J0j (V := U6) (n := 64) (off := 0) k_t12 ap0 (by decide) (by decide)) (by rfl) rfl rfl ?_
   (try simp only [Act.put, mA, mB, mC])
   refine Lv ?_
   refine J6w (l := (lb 64 U6)) (m := (lb 64 U6)) (b := true) (decide_eq_true rfl) (by rfl) rfl rfl rfl ?_
   (try simp only [Act.put, mA, mB, mC])
   refine Lw ?_ (v := .bool true)
   refine Lw ?_ (v := .bool true)
   refine Lv ?_
   refine Lv ?_
   refine Lw ?_ (v := .bool true) (hv := by first | (go_simp; done) | (go_simp; simp))
   refine Lw ?_ (v := .bool true)
   refine Lw ?_ (v := .bool true)
   refine J0 ?_
   go_wp2
   exact bodyPost_ret (v := .bool true) (by simp only [results, Tryd.results10]; go_simp) rfl ⟨rfl, off0.ext⟩
  ·
   have _f := h0
   have hz0 : (U2 : Int) = 15 := by rw [(show U2 = 0 ∨ U2 = 15 by rw [HU2.out]; exact Q9c _ _).resolve_left h0]; rfl
   clear h0
   go_upto_region 13 with fail
   refine wp_region_lit ?_
   refine Lr ?_ (J8l hd hb hc W16 (Q7 hG off0.ext))
   intro W17 hO
   replace k_t7 := k_t7.o hO
   replace k_t9 := k_t9.o hO
   replace k_t12 := k_t12.o hO
   replace ow_a24 := Own.off ow_a24 hO f0
   replace off0 := off0.o hO
   clear hO
   refine Lw ?_ (v := .bool true)
   refine Lv ?_
   refine Lw ?_ (v := .bool false) (hv := by first | (go_simp; done) | (go_simp; simp only [hz0]; done) | (go_simp; simp only [hz0]; decide))
   refine Lw ?_ (v := .bool false)
   refine Lv ?_
   refine Lw ?_ (v := .bool true) (hv := by first | (go_simp; done) | (go_simp; simp only [hz0]; done) | (go_simp; simp only [hz0]; decide))
   refine Lw ?_ (v := .bool true)
   refine Lw ?_ (v := .bool true)
   refine Lw ?_ (v := .bool true)
   refine Lw ?_ (v := .slice (some ⟨Q0c, 0, none⟩) 64 64) (hv := by first | rfl | (go_simp; done) | (go_simp; with_reducible rfl))
   refine J2l (l := (lb 64 U6)) (J0j (V := U6) (n := 64) (off := 0) k_t12 ap0 (by decide) (by decide)) (by rfl) rfl rfl ?_
   (try simp only [Act.put, mA, mB, mC])
   refine Lv ?_
   refine J6w (l := (lb 64 U6)) (m := (lb 64 U6)) (b := true) (decide_eq_true rfl) (by rfl) rfl rfl rfl ?_
   (try simp only [Act.put, mA, mB, mC])
   refine Lw ?_ (v := .bool true)
   refine Lw ?_ (v := .bool true)
   refine Lv ?_
   refine Lv ?_
   refine Lw ?_ (v := .bool true) (hv := by first | (go_simp; done) | (go_simp; simp))
   refine Lw ?_ (v := .bool true)
   refine Lw ?_ (v := .bool true)
   refine J0 ?_
   go_wp2
   exact bodyPost_ret (v := .bool true) (by simp only [results, Tryd.results10]; go_simp) rfl ⟨rfl, off0.ext⟩
 ·
  have _f := hk
  go_upto_region 7 with fail
  refine wp_region_lit ?_
  refine Lv ?_
  refine Lw ?_ (v := .bool false) (hv := by exact Q4k (i := k) (n := 80) (decide_eq_false hk) rfl rfl rfl)
  refine Lw ?_ (v := .bool false)
  refine J0 ?_
  by_cases hq : k < 112
  ·
   have _f := hq
   go_upto_region 9 with fail
   refine wp_region_lit ?_
   refine Lv ?_
   refine Lw ?_ (v := .bool true) (hv := by exact Q4k (i := k) (n := 112) (decide_eq_true hq) rfl rfl rfl)
   refine Lw ?_ (v := .bool true)
   refine J0 ?_
   go_upto_region 10 with fail
   refine wp_region_lit ?_
   refine Lv ?_
   refine Lw ?_ (v := .int .i64 (((k - 80 : Nat) : Int))) (hv := by go_simp; (try simp only [IntKind.wrap_i64]); (try omega))
   refine Lw ?_ (v := .pointer (some ⟨J5j, 0 + (k - 80), none⟩)) (hv := Q0 (m := 32) (by decide) (by omega) Tryd.underlying22 (by kernel_rfl) rfl rfl rfl)
   refine Lg ?_ k_t9 (v := .int .u8 ((Q6 U5) (k - 80))) (hj := by rw [Nat.zero_add]; exact J6 _ _ _ _ (by omega))
   refine Lv ?_
   obtain ⟨xv, hxv⟩ := exi (bits .xor .u8 ((Q6 U5) (k - 80)) (cb : Int))
   have oxv : J4m xv := by rw [hxv]; exact Z1z _ _
   have HXV := Lib.hid hxv
   clear hxv
   refine Lw ?_ (v := .int .u8 xv) (hv := by rw [HXV.out]; exact Q63 rfl rfl rfl)
   refine Lw ?_ (v := .pointer (some ⟨J5j, 0 + (k - 80), none⟩)) (hv := Q0 (m := 32) (by decide) (by omega) Tryd.underlying22 (by kernel_rfl) rfl rfl rfl)
   refine J2i (v := .int .u8 xv) ⟨rfl, rfl⟩ (by rfl) rfl rfl rfl k_t9 (by rw [Q1, Nat.zero_add]; omega) (by kernel_rfl) ?_
   (try simp only [Act.put, mA, mB, mC])
   intro W12 hO h_
   rw [Nat.zero_add, J04] at h_
   replace k_t9 : Blk W12 J5j (J1 .u8 32 (upd (Q6 U5) (k - 80) xv)) 22 := h_
   clear h_
   replace k_t7 := k_t7.p hO nq_t7_t9
   replace ow_a24 := Own.off ow_a24 hO (f1 Q7x)
   replace off0 := off0.p hO Q1n
   clear hO
   obtain ⟨Pz, lPz, ePz⟩ := Z4o 32 U5 (k - 80) oxv
   rw [show J1 .u8 32 (upd (Q6 U5) (k - 80) xv) = J1 .u8 32 (Q6 Pz) from ePz] at k_t9
   have bPz : Pz < 2 ^ 256 := lPz
   refine J0 ?_
   go_upto_region 11 with fail
   refine wp_region_lit ?_
   refine L0A ?_ k_t9
   refine Lv ?_
   refine L0A ?_ k_t7
   obtain ⟨U8, hU8⟩ := V2 ((J6a Pz T U1).1)
   have HU8 := Lib.hid hU8
   clear hU8
   obtain ⟨U9, hU9⟩ := V2 ((J6a Pz T U1).2)
   have HU9 := Lib.hid hU9
   clear hU9
   refine Lr ?_ (Q0b hd hb hc HU8.out HU9.out bPz eU1 Q7w (by first | omega | (simp only [List.length_append, List.length_take, List.length_cons, List.length_nil, J8]; omega)) W12 (Q7 hG off0.ext) (ow_a24.sl))
   intro W13 hO
   replace k_t7 := k_t7.o hO
   replace k_t9 := k_t9.o hO
   replace ow_a24 := Own.off ow_a24 hO f0
   replace off0 := off0.o hO
   clear hO
   refine Lv ?_
   refine Lv ?_
   refine Lv ?_
   refine LnA ?_ (z := J1 .u8 64 (Q6 0)) (t := 30) (k := .u8) (n := 64) (f := Q6 U8)
   intro Q0c W15 J24 hO h_
   replace k_t7 := k_t7.o hO
   replace k_t9 := k_t9.o hO
   replace ow_a24 := Own.off ow_a24 hO f0
   replace off0 := off0.o hO
   have k_t12 := h_
   clear hO h_ J24
   refine Lv ?_
   refine J0 ?_
   go_upto_region 12 with fail
   refine Rx 12 ?_
   refine Xw ?_ (v := .slice (some ⟨J5j, 0, none⟩) 32 32)
   refine J3a (l := (lb 32 Pz)) (fun W hW => (J0j (V := Pz) (n := 32) (off := 0) (J2 k_t9 hW) ap0 (by decide) (by decide))) (by rfl) rfl rfl ?_
   (try simp only [Act.put, mA, mB, mC])
   refine Xv ?_
   refine J3a (l := T) (fun W hW => J8r (ow_a24.sl) hW) (by rfl) rfl rfl ?_
   (try simp only [Act.put, mA, mB, mC])
   refine Xw ?_ (v := .slice (some ⟨J97, 0, none⟩) 80 80)
   refine J3a (l := (lb 80 U1)) (fun W hW => (J0j (V := U1) (n := 80) (off := 0) (J2 k_t7 hW) ap0 (by decide) (by decide))) (by rfl) rfl rfl ?_
   (try simp only [Act.put, mA, mB, mC])
   refine Xf ?_ (fun W hW => Q3k HU8.out HU9.out bPz eU1 (by first | omega | (simp only [List.length_append, List.length_take, List.length_cons, List.length_nil, J8]; omega)) W ((Q7 (Q7 hG off0.ext) hW).2.2.2 hr))
   refine Xv ?_
   refine Xv ?_
   refine Xv ?_
   refine Xv ?_
   refine Xv ?_
   refine Q3 fun W16 hE => ?_
   have hO := Z6 hE
   replace k_t7 := k_t7.o hO
   replace k_t9 := k_t9.o hO
   replace k_t12 := k_t12.o hO
   replace ow_a24 := Own.off ow_a24 hO f0
   replace off0 := off0.o hO
   clear hO hE
   refine LN ?_
   by_cases h0 : U2 = 0
   ·
    have _f := h0
    have hz0 : (U2 : Int) = 0 := by rw [h0]; rfl
    clear h0
    go_upto_region 13 with fail
    refine wp_region_lit ?_
    refine Lr ?_ (J8l hd hb hc W16 (Q7 hG off0.ext))
    intro W17 hO
    replace k_t7 := k_t7.o hO
    replace k_t9 := k_t9.o hO
    replace k_t12 := k_t12.o hO
    replace ow_a24 := Own.off ow_a24 hO f0
    replace off0 := off0.o hO
    clear hO
    refine Lw ?_ (v := .bool true)
    refine Lv ?_
    refine Lw ?_ (v := .bool true) (hv := by first | (go_simp; done) | (go_simp; simp only [hz0]; done) | (go_simp; simp only [hz0]; decide))
    refine Lw ?_ (v := .bool true)
    refine Ls ?_
    refine Ls ?_
    refine Lw ?_ (v := .bool true)
    refine Lw ?_ (v := .bool true)
    refine Lw ?_ (v := .bool true)
    refine Lw ?_ (v := .slice (some ⟨Q0c, 0, none⟩) 64 64) (hv := by first | rfl | (go_simp; done) | (go_simp; with_reducible rfl))
    refine J2l (l := (lb 64 U8)) (J0j (V := U8) (n := 64) (off := 0) k_t12 ap0 (by decide) (by decide)) (by rfl) rfl rfl ?_
    (try simp only [Act.put, mA, mB, mC])
    refine Lv ?_
    refine J6w (l := (lb 64 U8)) (m := (lb 64 U8)) (b := true) (decide_eq_true rfl) (by rfl) rfl rfl rfl ?_
    (try simp only [Act.put, mA, mB, mC])
    refine Lw ?_ (v := .bool true)
    refine Lw ?_ (v := .bool true)
    refine Lv ?_
    refine Lv ?_
    refine Lw ?_ (v := .bool true) (hv := by first | (go_simp; done) | (go_simp; simp))
    refine Lw ?_ (v := .bool true)
    refine Lw ?_ (v := .bool true)
    refine J0 ?_
    go_wp2
    exact bodyPost_ret (v := .bool true) (by simp only [results, Tryd.results10]; go_simp) rfl ⟨rfl, off0.ext⟩
   ·
    have _f := h0
    have hz0 : (U2 : Int) = 15 := by rw [(show U2 = 0 ∨ U2 = 15 by rw [HU2.out]; exact Q9c _ _).resolve_left h0]; rfl
    clear h0
    go_upto_region 13 with fail
    refine wp_region_lit ?_
    refine Lr ?_ (J8l hd hb hc W16 (Q7 hG off0.ext))
    intro W17 hO
    replace k_t7 := k_t7.o hO
    replace k_t9 := k_t9.o hO
    replace k_t12 := k_t12.o hO
    replace ow_a24 := Own.off ow_a24 hO f0
    replace off0 := off0.o hO
    clear hO
    refine Lw ?_ (v := .bool true)
    refine Lv ?_
    refine Lw ?_ (v := .bool false) (hv := by first | (go_simp; done) | (go_simp; simp only [hz0]; done) | (go_simp; simp only [hz0]; decide))
    refine Lw ?_ (v := .bool false)
    refine Lv ?_
    refine Lw ?_ (v := .bool true) (hv := by first | (go_simp; done) | (go_simp; simp only [hz0]; done) | (go_simp; simp only [hz0]; decide))
    refine Lw ?_ (v := .bool true)
    refine Lw ?_ (v := .bool true)
    refine Lw ?_ (v := .bool true)
    refine Lw ?_ (v := .slice (some ⟨Q0c, 0, none⟩) 64 64) (hv := by first | rfl | (go_simp; done) | (go_simp; with_reducible rfl))
    refine J2l (l := (lb 64 U8)) (J0j (V := U8) (n := 64) (off := 0) k_t12 ap0 (by decide) (by decide)) (by rfl) rfl rfl ?_
    (try simp only [Act.put, mA, mB, mC])
    refine Lv ?_
    refine J6w (l := (lb 64 U8)) (m := (lb 64 U8)) (b := true) (decide_eq_true rfl) (by rfl) rfl rfl rfl ?_
    (try simp only [Act.put, mA, mB, mC])
    refine Lw ?_ (v := .bool true)
    refine Lw ?_ (v := .bool true)
    refine Lv ?_
    refine Lv ?_
    refine Lw ?_ (v := .bool true) (hv := by first | (go_simp; done) | (go_simp; simp))
    refine Lw ?_ (v := .bool true)
    refine Lw ?_ (v := .bool true)
    refine J0 ?_
    go_wp2
    exact bodyPost_ret (v := .bool true) (by simp only [results, Tryd.results10]; go_simp) rfl ⟨rfl, off0.ext⟩
  ·
   have _f := hq
   go_upto_region 9 with fail
   refine wp_region_lit ?_
   refine Lv ?_
   refine Lw ?_ (v := .bool false) (hv := by exact Q4k (i := k) (n := 112) (decide_eq_false hq) rfl rfl rfl)
   refine Lw ?_ (v := .bool false)
   refine J0 ?_
   go_upto_region 6 with fail
   refine wp_region_lit ?_
   obtain ⟨gt, cap, cur, hv_, kt, hob, hget, hset⟩ := Y2x ow_a24 hT0
   refine Lv ?_
   refine J4i (b := gt) (off := 0) (n := T.length) (c := cap) (j := 0) hT0 (by rfl) rfl (by first | rfl | exact hv_) rfl ?_
   (try simp only [Act.put, mA, mB, mC])
   refine Lg ?_ kt (v := .int .u8 (x0.toNat : Int)) (hj := hget 0 x0 hx0)
   refine Lv ?_
   refine Lw ?_ (v := .int .u8 (xb.toNat : Int)) (hv := by rw [HXB.out]; exact Q63 rfl rfl rfl)
   refine J4i (b := gt) (off := 0) (n := T.length) (c := cap) (j := 0) hT0 (by rfl) rfl (by first | rfl | exact hv_) rfl ?_
   (try simp only [Act.put, mA, mB, mC])
   refine J2i (v := .int .u8 (xb.toNat : Int)) ⟨rfl, rfl⟩ (by rfl) rfl rfl rfl kt (by have h_ := hget 0 x0 hx0; exact (Array.getElem?_eq_some_iff.1 h_).1) (by kernel_rfl) ?_
   (try simp only [Act.put, mA, mB, mC])
   intro W12 hO h_
   have V1c : Own W12 Q7w (T.set 0 xb) := hset W12 0 xb hT0 h_
   rw [show [gt] = (Value.ownBlock Q7w).toList by rw [hob]; rfl] at hO
   replace k_t7 := K3 k_t7 hO (nmo J6y)
   replace k_t9 := K3 k_t9 hO (nmo Q7x)
   replace off0 := off0.step hO (io J94)
   rw [← HT2.out] at V1c
   clear hO h_ ow_a24 hv_ hob hset kt
   have ow_a24 := V1c
   clear V1c
   refine J0 ?_
   go_upto_region 11 with fail
   refine wp_region_lit ?_
   refine L0A ?_ k_t9
   refine Lv ?_
   refine L0A ?_ k_t7
   refine Lr ?_ (Q0b hd hb hc HU10.out HU11.out bU5 eU1 Q7w (by first | omega | (simp only [List.length_append, List.length_take, List.length_cons, List.length_nil, J8]; omega)) W12 (Q7 hG off0.ext) (ow_a24.sl))
   intro W13 hO
   replace k_t7 := k_t7.o hO
   replace k_t9 := k_t9.o hO
   replace ow_a24 := Own.off ow_a24 hO f0
   replace off0 := off0.o hO
   clear hO
   refine Lv ?_
   refine Lv ?_
   refine Lv ?_
   refine LnA ?_ (z := J1 .u8 64 (Q6 0)) (t := 30) (k := .u8) (n := 64) (f := Q6 U10)
   intro Q0c W15 J24 hO h_
   replace k_t7 := k_t7.o hO
   replace k_t9 := k_t9.o hO
   replace ow_a24 := Own.off ow_a24 hO f0
   replace off0 := off0.o hO
   have k_t12 := h_
   clear hO h_ J24
   refine Lv ?_
   refine J0 ?_
   go_upto_region 12 with fail
   refine Rx 12 ?_
   refine Xw ?_ (v := .slice (some ⟨J5j, 0, none⟩) 32 32)
   refine J3a (l := (lb 32 U5)) (fun W hW => (J0j (V := U5) (n := 32) (off := 0) (J2 k_t9 hW) ap0 (by decide) (by decide))) (by rfl) rfl rfl ?_
   (try simp only [Act.put, mA, mB, mC])
   refine Xv ?_
   refine J3a (l := T2) (fun W hW => J8r (ow_a24.sl) hW) (by rfl) rfl rfl ?_
   (try simp only [Act.put, mA, mB, mC])
   refine Xw ?_ (v := .slice (some ⟨J97, 0, none⟩) 80 80)
   refine J3a (l := (lb 80 U1)) (fun W hW => (J0j (V := U1) (n := 80) (off := 0) (J2 k_t7 hW) ap0 (by decide) (by decide))) (by rfl) rfl rfl ?_
   (try simp only [Act.put, mA, mB, mC])
   refine Xf ?_ (fun W hW => Q3k HU10.out HU11.out bU5 eU1 (by first | omega | (simp only [List.length_append, List.length_take, List.length_cons, List.length_nil, J8]; omega)) W ((Q7 (Q7 hG off0.ext) hW).2.2.2 hr))
   refine Xv ?_
   refine Xv ?_
   refine Xv ?_
   refine Xv ?_
   refine Xv ?_
   refine Q3 fun W16 hE => ?_
   have hO := Z6 hE
   replace k_t12 := k_t12.o hO
   replace off0 := off0.o hO
   clear hO hE
   refine LN ?_
   by_cases h0 : U2 = 0
   ·
    have _f := h0
    have hz0 : (U2 : Int) = 0 := by rw [h0]; rfl
    clear h0
    go_upto_region 13 with fail
    refine wp_region_lit ?_
    refine Lr ?_ (J8l hd hb hc W16 (Q7 hG off0.ext))
    intro W17 hO
    replace k_t12 := k_t12.o hO
    replace off0 := off0.o hO
    clear hO
    refine Lw ?_ (v := .bool true)
    refine Lv ?_
    refine Lw ?_ (v := .bool true) (hv := by first | (go_simp; done) | (go_simp; simp only [hz0]; done) | (go_simp; simp only [hz0]; decide))
    refine Lw ?_ (v := .bool true)
    refine Ls ?_
    refine Ls ?_
    refine Lw ?_ (v := .bool true)
    refine Lw ?_ (v := .bool true)
    refine Lw ?_ (v := .bool true)
    refine Lw ?_ (v := .slice (some ⟨Q0c, 0, none⟩) 64 64) (hv := by first | rfl | (go_simp; done) | (go_simp; with_reducible rfl))
    refine J2l (l := (lb 64 U10)) (J0j (V := U10) (n := 64) (off := 0) k_t12 ap0 (by decide) (by decide)) (by rfl) rfl rfl ?_
    (try simp only [Act.put, mA, mB, mC])
    refine Lv ?_
    refine J6w (l := (lb 64 U10)) (m := (lb 64 U10)) (b := true) (decide_eq_true rfl) (by rfl) rfl rfl rfl ?_
    (try simp only [Act.put, mA, mB, mC])
    refine Lw ?_ (v := .bool true)
    refine Lw ?_ (v := .bool true)
    refine Lv ?_
    refine Lv ?_
    refine Lw ?_ (v := .bool true) (hv := by first | (go_simp; done) | (go_simp; simp))
    refine Lw ?_ (v := .bool true)
    refine Lw ?_ (v := .bool true)
    refine J0 ?_
    go_wp2
    exact bodyPost_ret (v := .bool true) (by simp only [results, Tryd.results10]; go_simp) rfl ⟨rfl, off0.ext⟩
   ·
    have _f := h0
    have hz0 : (U2 : Int) = 15 := by rw [(show U2 = 0 ∨ U2 = 15 by rw [HU2.out]; exact Q9c _ _).resolve_left h0]; rfl
    clear h0
    go_upto_region 13 with fail
    refine wp_region_lit ?_
    refine Lr ?_ (J8l hd hb hc W16 (Q7 hG off0.ext))
    intro W17 hO
    replace k_t12 := k_t12.o hO
    replace off0 := off0.o hO
    clear hO
    refine Lw ?_ (v := .bool true)
    refine Lv ?_
    refine Lw ?_ (v := .bool false) (hv := by first | (go_simp; done) | (go_simp; simp only [hz0]; done) | (go_simp; simp only [hz0]; decide))
    refine Lw ?_ (v := .bool false)
    refine Lv ?_
    refine Lw ?_ (v := .bool true) (hv := by first | (go_simp; done) | (go_simp; simp only [hz0]; done) | (go_simp; simp only [hz0]; decide))
    refine Lw ?_ (v := .bool true)
    refine Lw ?_ (v := .bool true)
    refine Lw ?_ (v := .bool true)
    refine Lw ?_ (v := .slice (some ⟨Q0c, 0, none⟩) 64 64) (hv := by first | rfl | (go_simp; done) | (go_simp; with_reducible rfl))
    refine J2l (l := (lb 64 U10)) (J0j (V := U10) (n := 64) (off := 0) k_t12 ap0 (by decide) (by decide)) (by rfl) rfl rfl ?_
    (try simp only [Act.put, mA, mB, mC])
    refine Lv ?_
    refine J6w (l := (lb 64 U10)) (m := (lb 64 U10)) (b := true) (decide_eq_true rfl) (by rfl) rfl rfl rfl ?_
    (try simp only [Act.put, mA, mB, mC])
    refine Lw ?_ (v := .bool true)
    refine Lw ?_ (v := .bool true)
    refine Lv ?_
    refine Lv ?_
    refine Lw ?_ (v := .bool true) (hv := by first | (go_simp; done) | (go_simp; simp))
    refine Lw ?_ (v := .bool true)
    refine Lw ?_ (v := .bool true)
    refine J0 ?_
    go_wp2
    exact bodyPost_ret (v := .bool true) (by simp only [results, Tryd.results10]; go_simp) rfl ⟨rfl, off0.ext⟩
end Go.Proofs.YtefpoollmbmkfaaDoor
