/- custumallaw09: VrfChecks, VrfNeutral. Conditions: the cells of the variables hold their numbers. -/
import Derived.Test.YtefpoollmbmkfaaDoorGc
import Derived.Test.YtefpoollmbmkfaaDoorVfH
set_option linter.unusedSimpArgs false
set_option linter.unusedVariables false
namespace Go.Proofs.YtefpoollmbmkfaaDoor
set_option maxHeartbeats 2000000
set_option maxRecDepth 100000
open Go.RowKit
attribute [local irreducible] wpList
variable {kn : Kn}
open Sc (LL J2a)
attribute [local irreducible] hs
attribute [local irreducible] Q0o J79 vsm

theorem Z0c (hd : kn.d) (hb : kn.b) (hc : kn.c) (hr : kn.r) {V P : Nat} (bV : V < 2 ^ 256) (eP : B80 P) (v : Value) (L M : List UInt8) (hL : L.length ≤ 9223372036854775807) (hM : List.take (min L.length 200) L = M) (hMl : M.length ≤ 200) :
  ∀ w, GA kn w → Sl w v L → Calls Tryd.prog 12 #[.agg (J1 .u8 32 (Q6 V)), v, .agg (J1 .u8 80 (Q6 P))] w fun e w' => Ret (.bool true) w w' e := by
 obtain ⟨U1, hU1⟩ := V2 ((J79 V M P).1)
 have HU1 := Lib.hid hU1
 clear hU1
 obtain ⟨U2, hU2⟩ := V2 ((J79 V M P).2)
 have HU2 := Lib.hid hU2
 clear hU2
 obtain ⟨U3, hU3⟩ := V2 ((vsm P).1)
 have HU3 := Lib.hid hU3
 clear hU3
 obtain ⟨U4, hU4⟩ := V2 ((vsm P).2)
 have HU4 := Lib.hid hU4
 clear hU4
 intro w hG hs
 have Q5 := hs
 have off0 : Off [] w w := Off.refl _ _
 go_enter Tryd.func12, Tryd.ntmps12
 go_upto_region 0 with fail
 refine wp_region_lit ?_
 refine Ln ?_ (z := J1 .u8 32 (Q6 V)) (t := 22)
 intro J28 W1 J12 hO h_
 have Q4f := J0m (Sl.lt Q5) J12
 replace Q5 := Sl.off Q5 hO f0
 replace off0 := off0.o hO
 have k_t3 := h_
 clear hO h_ J12
 refine Ln ?_ (z := J1 .u8 80 (Q6 P)) (t := 45)
 intro J8i W2 J0k hO h_
 have Y5x := J0m (Sl.lt Q5) J0k
 replace k_t3 := k_t3.o hO
 replace Q5 := Sl.off Q5 hO f0
 replace off0 := off0.o hO
 have k_t5 := h_
 clear hO h_ J0k
 refine Lw ?_ (v := .bool false)
 refine J0 ?_
 go_upto_region 1 with fail
 refine wp_region_lit ?_
 refine Lv ?_
 refine Lv ?_
 refine J5s (l := L) Q5 (by rfl) rfl rfl ?_
 (try simp only [Act.put, mA, mB, mC])
 refine Lw ?_ (v := .int .i64 ((min L.length 200 : Nat) : Int)) (hv := by go_simp; (try omega))
 refine Z9h (n := min L.length 200) Q5 (by omega) (by rfl) rfl rfl rfl ?_
 (try simp only [Act.put, mA, mB, mC])
 intro Y2t Q1b Q97 V40
 have Z7b : sb Y2t (List.take (min L.length 200) L) ≠ some J28 := Q8q Q97 Q4f
 have Z7c : sb Y2t (List.take (min L.length 200) L) ≠ some J8i := Q8q Q97 Y5x
 rw [hM] at Q1b Q97
 (try rw [hM] at Z7b Z7c)
 refine Lv ?_
 refine J0 ?_
 go_upto_region 2 with fail
 refine wp_region_lit ?_
 refine L0A ?_ k_t3
 refine Lv ?_
 refine L0A ?_ k_t5
 refine Lr ?_ (Q6b hd hb hc HU1.out HU2.out bV eP Y2t (by first | omega | (simp only [List.length_append, List.length_take, List.length_cons, List.length_nil, J8]; omega)) W2 (Q9 hG off0.ext) Q1b)
 intro W3 hO
 replace k_t3 := k_t3.o hO
 replace k_t5 := k_t5.o hO
 replace Q1b := Sl.off Q1b hO f0
 replace off0 := off0.o hO
 clear hO
 refine Lv ?_
 refine Lv ?_
 refine Lv ?_
 refine LnA ?_ (z := J1 .u8 64 (Q6 0)) (t := 30) (k := .u8) (n := 64) (f := Q6 U1)
 intro V3o W5 J04 hO h_
 replace k_t3 := k_t3.o hO
 replace k_t5 := k_t5.o hO
 replace Q1b := Sl.off Q1b hO f0
 replace off0 := off0.o hO
 have k_t7 := h_
 clear hO h_ J04
 refine Lv ?_
 refine J0 ?_
 go_upto_region 3 with fail
 refine Rx 12 ?_
 refine Xw ?_ (v := .slice (some ⟨J28, 0, none⟩) 32 32)
 refine J4j (l := (lb 32 V)) (fun W hW => (J0z (V := V) (n := 32) (off := 0) (J2 k_t3 hW) ap0 (by decide) (by decide))) (by rfl) rfl rfl ?_
 (try simp only [Act.put, mA, mB, mC])
 refine Xv ?_
 refine J4j (l := M) (fun W hW => Q12 Q1b hW) (by rfl) rfl rfl ?_
 (try simp only [Act.put, mA, mB, mC])
 refine Xw ?_ (v := .slice (some ⟨J8i, 0, none⟩) 80 80)
 refine J4j (l := (lb 80 P)) (fun W hW => (J0z (V := P) (n := 80) (off := 0) (J2 k_t5 hW) ap0 (by decide) (by decide))) (by rfl) rfl rfl ?_
 (try simp only [Act.put, mA, mB, mC])
 refine Xf ?_ (fun W hW => Z7a HU1.out HU2.out bV eP (by first | omega | (simp only [List.length_append, List.length_take, List.length_cons, List.length_nil, J8]; omega)) W ((Q9 (Q9 hG off0.ext) hW).2.2.2 hr))
 refine Xv ?_
 refine Xv ?_
 refine Xv ?_
 refine Xv ?_
 refine Xv ?_
 refine Q3 fun W6 hE => ?_
 have hO := Z6 hE
 replace k_t5 := k_t5.o hO
 replace k_t7 := k_t7.o hO
 replace off0 := off0.o hO
 clear hO hE
 refine LN ?_
 go_upto_region 4 with fail
 refine wp_region_lit ?_
 refine L0A ?_ k_t5
 refine Lr ?_ (Y5w hc HU3.out HU4.out W6 (Q9 hG off0.ext))
 intro W7 hO
 replace k_t5 := k_t5.o hO
 replace k_t7 := k_t7.o hO
 replace off0 := off0.o hO
 clear hO
 refine Lv ?_
 refine Lv ?_
 refine Lv ?_
 refine LnA ?_ (z := J1 .u8 64 (Q6 0)) (t := 30) (k := .u8) (n := 64) (f := Q6 U3)
 intro V41 W9 K1 hO h_
 replace k_t5 := k_t5.o hO
 replace k_t7 := k_t7.o hO
 replace off0 := off0.o hO
 have k_t11 := h_
 clear hO h_ K1
 refine Lv ?_
 refine J0 ?_
 go_upto_region 5 with fail
 refine wp_region_lit ?_
 refine Lw ?_ (v := .slice (some ⟨J8i, 0, none⟩) 80 80) (hv := by first | rfl | (go_simp; done) | (go_simp; with_reducible rfl))
 refine J3k (l := (lb 80 P)) (J0z (V := P) (n := 80) (off := 0) k_t5 ap0 (by decide) (by decide)) (by rfl) rfl rfl ?_
 (try simp only [Act.put, mA, mB, mC])
 refine Lr ?_ (Y2l HU3.out HU4.out W9 ((Q9 hG off0.ext).2.2.2 hr))
 intro W10 hO
 replace k_t7 := k_t7.o hO
 replace k_t11 := k_t11.o hO
 replace off0 := off0.o hO
 clear hO
 refine Lv ?_
 refine Lv ?_
 refine Lv ?_
 refine Lv ?_
 refine Lv ?_
 refine J0 ?_
 go_upto_region 6 with fail
 refine wp_region_lit ?_
 refine L0A ?_ k_t11
 refine Lr ?_ (Y5j W10)
 intro W11 hO
 replace k_t7 := k_t7.o hO
 replace k_t11 := k_t11.o hO
 replace off0 := off0.o hO
 clear hO
 refine LnA ?_ (z := J1 .u8 32 (Q6 0)) (t := 22) (k := .u8) (n := 32) (f := Q6 (lo U3))
 intro V13 W13 J8h hO h_
 replace k_t7 := k_t7.o hO
 replace k_t11 := k_t11.o hO
 replace off0 := off0.o hO
 have k_t15 := h_
 clear hO h_ J8h
 refine J0 ?_
 go_upto_region 7 with fail
 refine Rx 31 ?_
 refine Xf ?_ (fun W hW => Y2m hd hb hc W (Q9 (Q9 hG off0.ext) hW))
 refine Xv ?_
 refine Xw ?_ (v := .slice (some ⟨V3o, 0, none⟩) 64 64)
 refine J4j (l := (lb 64 U1)) (fun W hW => (J0z (V := U1) (n := 64) (off := 0) (J2 k_t7 hW) ap0 (by decide) (by decide))) (by rfl) rfl rfl ?_
 (try simp only [Act.put, mA, mB, mC])
 refine Xv ?_
 refine Q2x (l := (lb 64 U1)) (m := (lb 64 U1)) (b := true) (decide_eq_true rfl) (by rfl) rfl rfl rfl ?_
 (try simp only [Act.put, mA, mB, mC])
 refine Xv ?_
 refine Xv ?_
 refine Xv ?_
 refine Xv ?_
 refine Xw ?_ (v := .bool true) (hv := fun _ _ => by first | (go_simp; done) | (go_simp; simp))
 refine Xv ?_
 refine Xv ?_
 refine Xw ?_ (v := .slice (some ⟨V41, 0, none⟩) 64 64)
 refine J4j (l := (lb 64 U3)) (fun W hW => (J0z (V := U3) (n := 64) (off := 0) (J2 k_t11 hW) ap0 (by decide) (by decide))) (by rfl) rfl rfl ?_
 (try simp only [Act.put, mA, mB, mC])
 refine Xv ?_
 refine Q2x (l := (lb 64 U3)) (m := (lb 64 U3)) (b := true) (decide_eq_true rfl) (by rfl) rfl rfl rfl ?_
 (try simp only [Act.put, mA, mB, mC])
 refine Xv ?_
 refine Xv ?_
 refine Xv ?_
 refine Xv ?_
 refine Xw ?_ (v := .bool true) (hv := fun _ _ => by first | (go_simp; done) | (go_simp; simp))
 refine Xv ?_
 refine Xv ?_
 refine Xw ?_ (v := .slice (some ⟨V13, 0, none⟩) 32 32)
 refine J4j (l := (lb 32 (lo U3))) (fun W hW => (J0z (V := (lo U3)) (n := 32) (off := 0) (J2 k_t15 hW) ap0 (by decide) (by decide))) (by rfl) rfl rfl ?_
 (try simp only [Act.put, mA, mB, mC])
 refine Xv ?_
 refine Xw ?_ (v := str (lb 32 (lo U3))) (hv := fun _ _ => by exact Q0j rfl Tryd.underlying9 rfl rfl)
 refine Q2x (l := (lb 32 (lo U3))) (m := (lb 32 (lo U3))) (b := true) (decide_eq_true rfl) (by rfl) rfl rfl rfl ?_
 (try simp only [Act.put, mA, mB, mC])
 refine Xv ?_
 refine Xv ?_
 refine Q3 fun W14 hE => ?_
 have hO := Z6 hE
 replace off0 := off0.o hO
 clear hO hE
 refine LN ?_
 go_wp2
 exact bodyPost_ret (v := .bool true) (by simp only [results, Tryd.results12]; go_simp) rfl ⟨rfl, off0.ext⟩
end Go.Proofs.YtefpoollmbmkfaaDoor
