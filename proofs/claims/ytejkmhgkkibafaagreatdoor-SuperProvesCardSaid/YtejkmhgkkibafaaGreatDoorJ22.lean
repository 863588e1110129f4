/- sign: Verify. Conditions: the cells of the variables hold their numbers. The document's sum. Conditions: the text is no longer than 2^46 bytes; the tables hold their numbers. custumalref06.L, less and Add. Conditions: the parts are parts of 16 bits. custumalref06.Add. Conditions: both numbers are below the order. custumalref06.Raw: four words as 32 bytes. No conditions. custumalref06.Bytes: 16 parts as 32 bytes. No conditions. custumalref06.Of: a text's bytes, the lowest first, modulo the order. Conditions: the text is the bytes of a number. custumalref06.Of, the walk. Conditions: the text is the bytes of a number. custumalref06.Mul. Conditions: the first number is below the order, the second below 2^256. custumalref06.Neg. Conditions: the number is below the order. custumalref06.Clamp, over a text of 32 bytes. Conditions: they are bytes. The document's points: D, Base, Zero, Neg, Add, Eight, Same. No conditions. The document's Encode and Decode. No conditions. The document's Times: of a text of any length. No conditions. The document's Decode. No conditions. The document's Decode, where there is a point. No conditions. The document's Spread, Sign, Verify. Conditions: the cells of the sums' tables hold their numbers. custumallaw08: seeds, SignMakes, SignChecks, SignBack. Conditions: the cells of the variables hold their numbers. Words of 32 bits as the model reckons with them; arrays by a place that varies. No conditions. -/
import Derived.Test.YtejkmhgkkibafaaGreatDoorGc
import Derived.Test.YtejkmhgkkibafaaGreatDoorJ6
import Derived.Test.YtejkmhgkkibafaaGreatDoorJ3
import Derived.Test.YtejkmhgkkibafaaGreatDoorJ9
import Derived.Test.YtejkmhgkkibafaaGreatDoorS8SgB
import Derived.Test.YtejkmhgkkibafaaGreatDoorS8EdE
import Derived.Test.YtejkmhgkkibafaaGreatDoorS8EdG
import Derived.Test.YtejkmhgkkibafaaGreatDoorJ10
import Derived.Test.YtejkmhgkkibafaaGreatDoorJ15
import Derived.Test.YtejkmhgkkibafaaGreatDoorGa
import Derived.Deep.AppendLies
import Derived.Deep.RegionHeld3
import Derived.Test.YtejkmhgkkibafaaGreatDoorJ16
import Derived.Test.YtejkmhgkkibafaaGreatDoorJ18
import Derived.Test.YtejkmhgkkibafaaGreatDoorJ14
import Derived.Laws.BitsLemmas
set_option linter.unusedSimpArgs false
set_option linter.unusedVariables false
namespace Go.Proofs.YtejkmhgkkibafaaGreatDoor.S8
section
set_option maxHeartbeats 1000000
set_option maxRecDepth 100000
open Go.RowKit
attribute [local irreducible] wpList J0k
variable {kn : Kn}
open Sc (LL J4l)
theorem Q9x {V : Nat} (hV : V < LL) (w : World) (hG : Sc.GL w) : Calls Tryz.prog 105 #[.agg (J0 .u8 32 (Q5 V))] w fun e w' => Ret (.tuple #[L4 V, .bool true]) w w' e := by
  have h := Sc.canon_c (Q5 V) (J70 V) w hG
  rw [J5a, show 8 * 32 = 256 from rfl, Nat.mod_eq_of_lt (Nat.lt_trans hV J36), Sc.canonV, if_pos hV] at h
  exact h
theorem Z9k {V : Nat} (hV : LL ≤ V) (h2 : V < 2 ^ 256) (w : World) (hG : Sc.GL w) : Calls Tryz.prog 105 #[.agg (J0 .u8 32 (Q5 V))] w fun e w' => Ret (.tuple #[L4 0, .bool false]) w w' e := by
  have h := Sc.canon_c (Q5 V) (J70 V) w hG
  rw [J5a, show 8 * 32 = 256 from rfl, Nat.mod_eq_of_lt h2, Sc.canonV, if_neg (Nat.not_lt.2 hV)] at h
  exact h

theorem Z9l (hd : kn.d) (hb : kn.b) (hc : kn.c) {V G : Nat} (hV : V < 2 ^ 256) (hG2 : G < 2 ^ (256 + 256)) (v : Value) (L : List UInt8) (hL : L.length ≤ 1099511627776) (h1 : LL ≤ hi G) :
  ∀ w, GA kn w → Sl w v L → Calls Tryz.prog 61 #[.agg (J0 .u8 32 (Q5 V)), v, .agg (J0 .u8 64 (Q5 G))] w fun e w' => Ret (.int .i64 16) w w' e := by
 intro w hG hs
 have off0 : Off [] w w := Off.refl _ _
 go_enter Tryz.func61, Tryz.ntmps61
 go_upto_region 0 with fail
 refine wp_region_lit ?_
 refine Ln ?_ (z := J0 .u8 32 (Q5 V)) (t := 23)
 intro J0c W1 J20 hO h_
 replace off0 := off0.o hO
 clear hO h_ J20
 refine Ln ?_ (z := J0 .u8 64 (Q5 G)) (t := 45)
 intro J37 W2 J1k hO h_
 replace off0 := off0.o hO
 have k_t5 := h_
 clear hO h_ J1k
 refine Lw ?_ (v := .int .i64 0)
 refine J3 ?_
 go_upto_region 1 with fail
 refine wp_region_lit ?_
 refine Lw ?_ (v := .slice (some ⟨J37, 32, none⟩) 32 32) (hv := by first | rfl | (go_simp; done) | (go_simp; with_reducible rfl))
 refine Lw ?_ (v := .pointer (some ⟨J37, 32, none⟩)) (hv := by first | rfl | (go_simp; done) | (go_simp; with_reducible rfl))
 refine J29 (vs := (J0 .u8 32 (Q5 (hi G))).toList) (by rfl) rfl rfl k_t5 (Q20 Y3m) (by kernel_rfl) (by kernel_rfl) ?_
 (try simp only [Act.put, mA, mB, mC])
 refine Lr ?_ (Z9k h1 (Y68 hG2) W2 (GA_ext hG off0.ext).2.2.1)
 intro W3 hO
 replace off0 := off0.o hO
 clear hO
 refine Lv ?_
 refine Lv ?_
 refine Lw ?_ (v := .bool false)
 refine LnP ?_ (z := c4 0) (t := 153) (cells := c4 0)
 intro Z9m W5 J0n hO h_
 replace off0 := off0.o hO
 clear hO h_ J0n
 refine Lw ?_ (v := .bool false)
 refine J3 ?_
 go_wp2
 exact bodyPost_ret (v := .int .i64 16) (by simp only [results, Tryz.results61]; go_simp) rfl ⟨rfl, off0.ext⟩
theorem Z9n (hd : kn.d) (hb : kn.b) (hc : kn.c) {V G : Nat} (hV : V < 2 ^ 256) (hG2 : G < 2 ^ (256 + 256)) (v : Value) (L : List UInt8) (hL : L.length ≤ 1099511627776) (h1 : hi G < LL) (h2 : dOk V = false) :
  ∀ w, GA kn w → Sl w v L → Calls Tryz.prog 61 #[.agg (J0 .u8 32 (Q5 V)), v, .agg (J0 .u8 64 (Q5 G))] w fun e w' => Ret (.int .i64 15) w w' e := by
 have dc := Y8i (kn := kn) hc (V := V) hV h2
 intro w hG hs
 have off0 : Off [] w w := Off.refl _ _
 go_enter Tryz.func61, Tryz.ntmps61
 go_upto_region 0 with fail
 refine wp_region_lit ?_
 refine Ln ?_ (z := J0 .u8 32 (Q5 V)) (t := 23)
 intro J0c W1 J20 hO h_
 replace off0 := off0.o hO
 have k_t3 := h_
 clear hO h_ J20
 refine Ln ?_ (z := J0 .u8 64 (Q5 G)) (t := 45)
 intro J37 W2 J1k hO h_
 replace k_t3 := k_t3.o hO
 replace off0 := off0.o hO
 have k_t5 := h_
 clear hO h_ J1k
 refine Lw ?_ (v := .int .i64 0)
 refine J3 ?_
 go_upto_region 1 with fail
 refine wp_region_lit ?_
 refine Lw ?_ (v := .slice (some ⟨J37, 32, none⟩) 32 32) (hv := by first | rfl | (go_simp; done) | (go_simp; with_reducible rfl))
 refine Lw ?_ (v := .pointer (some ⟨J37, 32, none⟩)) (hv := by first | rfl | (go_simp; done) | (go_simp; with_reducible rfl))
 refine J29 (vs := (J0 .u8 32 (Q5 (hi G))).toList) (by rfl) rfl rfl k_t5 (Q20 Y3m) (by kernel_rfl) (by kernel_rfl) ?_
 (try simp only [Act.put, mA, mB, mC])
 refine Lr ?_ (Q9x h1 W2 (GA_ext hG off0.ext).2.2.1)
 intro W3 hO
 replace k_t3 := k_t3.o hO
 replace off0 := off0.o hO
 clear hO
 refine Lv ?_
 refine Lv ?_
 refine Lw ?_ (v := .bool true)
 refine LnP ?_ (z := c4 0) (t := 153) (cells := c4 (hi G))
 intro Z9m W5 J0n hO h_
 replace k_t3 := k_t3.o hO
 replace off0 := off0.o hO
 clear hO h_ J0n
 refine Lw ?_ (v := .bool true)
 refine J3 ?_
 go_upto_region 4 with fail
 refine wp_region_lit ?_
 refine L0A ?_ k_t3
 refine Lr ?_ (dc W5 (GA_ext hG off0.ext).1)
 intro W6 hO
 replace off0 := off0.o hO
 clear hO
 refine Lv ?_
 refine Lv ?_
 refine Lw ?_ (v := .int .i64 15)
 refine LnP ?_ (z := p4 0 0 0 0) (t := 157) (cells := p4 0 0 0 0)
 intro Q5m W8 J77 hO h_
 replace off0 := off0.o hO
 clear hO h_ J77
 refine Lw ?_ (v := .int .i64 15)
 refine J3 ?_
 go_wp2
 exact bodyPost_ret (v := .int .i64 15) (by simp only [results, Tryz.results61]; go_simp) rfl ⟨rfl, off0.ext⟩
theorem Z9o (hd : kn.d) (hb : kn.b) (hc : kn.c) {V G : Nat} (hV : V < 2 ^ 256) (hG2 : G < 2 ^ (256 + 256)) (v : Value) (L : List UInt8) (hL : L.length ≤ 1099511627776) (h1 : hi G < LL) (h2 : dOk V = true) :
  ∀ w, GA kn w → Sl w v L → Calls Tryz.prog 61 #[.agg (J0 .u8 32 (Q5 V)), v, .agg (J0 .u8 64 (Q5 G))] w fun e w' => Ret (.int .i64 (vfy V L G : Int)) w w' e := by
 obtain ⟨dx, dt, dr, dc⟩ := Y8l hc (V := V) hV h2
 obtain ⟨y0, hy0⟩ := exn (V % 2 ^ 255)
 rw [← hy0] at dr dc
 have Hy0 := Lib.hid hy0
 clear hy0
 obtain ⟨U1, hU1⟩ := exn (hs ((lb 32 (lo G)) ++ (lb 32 V) ++ L) % LL)
 have lU1 : U1 < LL := by rw [hU1]; exact mLL _
 have bU1 : U1 < 2 ^ 256 := Nat.lt_trans lU1 J36
 have HU1 := Lib.hid hU1
 clear hU1
 obtain ⟨x1, y2, z3, t4, r5, c6⟩ := Q7t hb
 obtain ⟨x7, y8, z9, t10, r11, c12⟩ := Q1e hd r5.rw (N := (hi G)) (Nat.lt_trans h1 J36)
 obtain ⟨x13, y14, z15, t16, r17, c18⟩ := Y8e (kn := kn) dr.rw
 obtain ⟨x19, y20, z21, t22, r23, c24⟩ := Q1e hd r17.rw (N := U1) (Nat.lt_trans lU1 J36)
 obtain ⟨x25, y26, z27, t28, r29, c30⟩ := Z8h hd r11.rw r23.rw
 obtain ⟨U2, hU2⟩ := exn (enc (J1l (pm BP (hi G)) (pm (J8d (dPt V)) U1)))
 have bU2 : U2 < 2 ^ 256 := by rw [hU2]; exact Q4r _
 have HU2 := Lib.hid hU2
 clear hU2
 intro w hG hs
 have Z0 := hs
 have off0 : Off [] w w := Off.refl _ _
 go_enter Tryz.func61, Tryz.ntmps61
 go_upto_region 0 with fail
 refine wp_region_lit ?_
 refine Ln ?_ (z := J0 .u8 32 (Q5 V)) (t := 23)
 intro J0c W1 J20 hO h_
 replace Z0 := Sl.off Z0 hO f0
 replace off0 := off0.o hO
 have k_t3 := h_
 clear hO h_ J20
 refine Ln ?_ (z := J0 .u8 64 (Q5 G)) (t := 45)
 intro J37 W2 J1k hO h_
 replace k_t3 := k_t3.o hO
 replace Z0 := Sl.off Z0 hO f0
 replace off0 := off0.o hO
 have k_t5 := h_
 clear hO h_ J1k
 refine Lw ?_ (v := .int .i64 0)
 refine J3 ?_
 go_upto_region 1 with fail
 refine wp_region_lit ?_
 refine Lw ?_ (v := .slice (some ⟨J37, 32, none⟩) 32 32) (hv := by first | rfl | (go_simp; done) | (go_simp; with_reducible rfl))
 refine Lw ?_ (v := .pointer (some ⟨J37, 32, none⟩)) (hv := by first | rfl | (go_simp; done) | (go_simp; with_reducible rfl))
 refine J29 (vs := (J0 .u8 32 (Q5 (hi G))).toList) (by rfl) rfl rfl k_t5 (Q20 Y3m) (by kernel_rfl) (by kernel_rfl) ?_
 (try simp only [Act.put, mA, mB, mC])
 refine Lr ?_ (Q9x h1 W2 (GA_ext hG off0.ext).2.2.1)
 intro W3 hO
 replace k_t3 := k_t3.o hO
 replace k_t5 := k_t5.o hO
 replace Z0 := Sl.off Z0 hO f0
 replace off0 := off0.o hO
 clear hO
 refine Lv ?_
 refine Lv ?_
 refine Lw ?_ (v := .bool true)
 refine LnP ?_ (z := c4 0) (t := 153) (cells := c4 (hi G))
 intro Z9m W5 J0n hO h_
 replace k_t3 := k_t3.o hO
 replace k_t5 := k_t5.o hO
 replace Z0 := Sl.off Z0 hO f0
 replace off0 := off0.o hO
 have k_t7 := h_
 clear hO h_ J0n
 refine Lw ?_ (v := .bool true)
 refine J3 ?_
 go_upto_region 4 with fail
 refine wp_region_lit ?_
 refine L0A ?_ k_t3
 refine Lr ?_ (dc W5 (GA_ext hG off0.ext).1)
 intro W6 hO
 replace k_t3 := k_t3.o hO
 replace k_t5 := k_t5.o hO
 replace k_t7 := k_t7.o hO
 replace Z0 := Sl.off Z0 hO f0
 replace off0 := off0.o hO
 clear hO
 refine Lv ?_
 refine Lv ?_
 refine Lw ?_ (v := .int .i64 0)
 refine LnP ?_ (z := p4 0 0 0 0) (t := 157) (cells := p4 dx y0 1 dt)
 intro Q5m W8 J77 hO h_
 replace k_t3 := k_t3.o hO
 replace k_t5 := k_t5.o hO
 replace k_t7 := k_t7.o hO
 replace Z0 := Sl.off Z0 hO f0
 replace off0 := off0.o hO
 have k_t9 := h_
 clear hO h_ J77
 refine Lw ?_ (v := .int .i64 0)
 refine J3 ?_
 go_upto_region 7 with fail
 refine Q0b (.q 0 (.q 1 (.q 2 (.b 3 (.b 4 (.e 5 (.e 6 .z)) 5 (.e 4 (.e 6 .z))) 5 (.e 3 (.e 4 (.e 6 .z))))))) (fun W => True) (fun a0 a_ wr => ∃ (j_s33 : Nat) (j_t11 : Nat), a_ = Q5j a0 [(30, .slice (some ⟨J37, 0, none⟩) 32 64), (31, .slice (some ⟨J0c, 0, none⟩) 32 32), (32, v), (33, .slice (some ⟨j_s33, 0, none⟩) 3 3), (34, .agg (c4 U1)), (11, .pointer (some ⟨j_t11, 0, none⟩))] ∧ Off [] w wr ∧ Blk wr J0c (J0 .u8 32 (Q5 V)) 23 ∧ Blk wr J37 (J0 .u8 64 (Q5 G)) 45 ∧ Blk wr Z9m (c4 (hi G)) 153 ∧ Blk wr Q5m (p4 dx y0 1 dt) 157 ∧ Blk wr j_s33 #[.slice (some ⟨J37, 0, none⟩) 32 64, .slice (some ⟨J0c, 0, none⟩) 32 32, v] 22 ∧ Blk wr j_t11 (c4 U1) 153 ∧ Sl wr v L ∧ Fb j_s33 w.heap.size [] ∧ J0c ≠ j_s33 ∧ J37 ≠ j_s33 ∧ Z9m ≠ j_s33 ∧ Q5m ≠ j_s33 ∧ (sb v L) ≠ some j_s33 ∧ Fb j_t11 w.heap.size [] ∧ J0c ≠ j_t11 ∧ J37 ≠ j_t11 ∧ Z9m ≠ j_t11 ∧ Q5m ≠ j_t11 ∧ j_s33 ≠ j_t11 ∧ (sb v L) ≠ some j_t11) (by kernel_rfl) (by kernel_rfl) ?_ ?_
 ·
  have _f := True.intro
  intro W9 hO
  replace k_t3 := k_t3.o hO
  replace k_t5 := k_t5.o hO
  replace k_t7 := k_t7.o hO
  replace k_t9 := k_t9.o hO
  replace Z0 := Sl.off Z0 hO f0
  replace off0 := off0.o hO
  clear hO
  refine ⟨trivial, ?_⟩
  refine J8n (v := .slice (some ⟨J37, 0, none⟩) 32 64) rfl (by rfl) (fun W hS => by first | rfl | (go_simp; done) | (go_simp; with_reducible rfl)) ?_
  (try simp only [Act.put, mA, mB, mC])
  refine J8n (v := .slice (some ⟨J0c, 0, none⟩) 32 32) rfl (by rfl) (fun W hS => by first | rfl | (go_simp; done) | (go_simp; with_reducible rfl)) ?_
  (try simp only [Act.put, mA, mB, mC])
  (refine J8n (v := ?_) rfl (by rfl) (fun W hS => ?_) ?_; rotate_left 1; (focus (go_simp; first | done | with_reducible rfl)))
  (try simp only [Act.put, mA, mB, mC])
  refine Q93 rfl rfl ?_ ?_
  ·
   have _f := True.intro
   refine LnS ?_ (z := #[.slice (some ⟨J37, 0, none⟩) 32 64, .slice (some ⟨J0c, 0, none⟩) 32 32, v]) (t := 22) (n := 3) (c := 3) (hr := by exact J0h [.slice (some ⟨J37, 0, none⟩) 32 64, .slice (some ⟨J0c, 0, none⟩) 32 32, v] rfl rfl (vsc (rfl) (vsc (rfl) (vsc ((V3 Z0).1) vs0))) Tryz.underlying113 (by kernel_rfl) (by kernel_rfl) rfl (by decide) (by decide))
   intro Q8a W10 J5v hO h_
   have J7q := bn k_t3 J5v
   have J7r := bn k_t5 J5v
   have J7s := bn k_t7 J5v
   have J7t := bn k_t9 J5v
   have J9b := J2k (Sl.lt Z0) J5v
   have Q4u := fbn off0 J5v
   replace k_t3 := k_t3.o hO
   replace k_t5 := k_t5.o hO
   replace k_t7 := k_t7.o hO
   replace k_t9 := k_t9.o hO
   replace Z0 := Sl.off Z0 hO f0
   replace off0 := off0.o hO
   have k_s33 := h_
   clear hO h_ J5v
   refine J2a (fun W => True) (fun W hS => trivial) trivial ?_
   refine Q93 rfl rfl ?_ ?_
   ·
    have _f := True.intro
    refine Lr ?_ (J6h (kn := kn) HU1.out [lb 32 (lo G), lb 32 V, L] (some ⟨Q8a, 0, none⟩) 3 (by simp only [List.flatten_cons, List.flatten_nil, List.append_nil, List.nil_append, List.append_assoc, List.cons_append]) (by first | omega | (simp only [List.length_append, List.length_cons, List.length_nil, Q2]; omega)) (by simp) W10 (J10 k_s33 (pvc (J03 (V := (lo G)) (n := 32) (off := 0) k_t5 Z5n (by decide) (by decide)) (pvc (J03 (V := V) (n := 32) (off := 0) k_t3 ap0 (by decide) (by decide)) (pvc Z0 pv0)))) (GA_ext hG off0.ext))
    intro W11 hO
    replace k_t3 := k_t3.o hO
    replace k_t5 := k_t5.o hO
    replace k_t7 := k_t7.o hO
    replace k_t9 := k_t9.o hO
    replace k_s33 := k_s33.o hO
    replace Z0 := Sl.off Z0 hO f0
    replace off0 := off0.o hO
    clear hO
    refine J2a (fun W => True) (fun W hS => trivial) trivial ?_
    refine J4c rfl ?_
    refine Ln ?_ (z := c4 0) (t := 153)
    intro Z9p W12 J1t hO h_
    have J3i := bn k_t3 J1t
    have J3j := bn k_t5 J1t
    have J3k := bn k_t7 J1t
    have nq_t9_t11 := bn k_t9 J1t
    have J50 := bn k_s33 J1t
    have J4m := J2k (Sl.lt Z0) J1t
    have J6g := fbn off0 J1t
    replace k_t3 := k_t3.o hO
    replace k_t5 := k_t5.o hO
    replace k_t7 := k_t7.o hO
    replace k_t9 := k_t9.o hO
    replace k_s33 := k_s33.o hO
    replace Z0 := Sl.off Z0 hO f0
    replace off0 := off0.o hO
    have k_t11 := h_
    clear hO h_ J1t
    refine J2a (fun W => True) (fun W hS => trivial) trivial ?_
    refine J4c rfl ?_
    refine Lp ?_ k_t11 (cells := c4 U1)
    intro W13 hO h_
    replace k_t11 : Blk W13 Z9p (c4 U1) 153 := h_
    clear h_
    replace k_t3 := k_t3.p hO J3i
    replace k_t5 := k_t5.p hO J3j
    replace k_t7 := k_t7.p hO J3k
    replace k_t9 := k_t9.p hO nq_t9_t11
    replace k_s33 := k_s33.p hO J50
    replace Z0 := Sl.off Z0 hO (f1 J4m)
    replace off0 := off0.p hO J6g
    clear hO
    refine J2a (fun W => True) (fun W hS => trivial) trivial ?_
    refine Q3y ?_
    exact ⟨Q8a, Z9p, (by (simp only [Q5j, List.foldl_cons, List.foldl_nil, Act.put, mA, mB, mC] <;> rfl)), off0, k_t3, k_t5, k_t7, k_t9, k_s33, k_t11, Z0, Q4u, J7q, J7r, J7s, J7t, J9b, J6g, J3i, J3j, J3k, nq_t9_t11, J50, J4m⟩
   have _f := True.intro
   refine Ln ?_ (z := c4 0) (t := 153)
   intro Z9q W11 J1t hO h_
   have J3i := bn k_t3 J1t
   have J3j := bn k_t5 J1t
   have J3k := bn k_t7 J1t
   have nq_t9_t11 := bn k_t9 J1t
   have J50 := bn k_s33 J1t
   have J4m := J2k (Sl.lt Z0) J1t
   have J6g := fbn off0 J1t
   replace k_t3 := k_t3.o hO
   replace k_t5 := k_t5.o hO
   replace k_t7 := k_t7.o hO
   replace k_t9 := k_t9.o hO
   replace k_s33 := k_s33.o hO
   replace Z0 := Sl.off Z0 hO f0
   replace off0 := off0.o hO
   have k_t11 := h_
   clear hO h_ J1t
   refine J2a (fun W => True) (fun W hS => trivial) trivial ?_
   refine J4c rfl ?_
   refine Lr ?_ (J6h (kn := kn) HU1.out [lb 32 (lo G), lb 32 V, L] (some ⟨Q8a, 0, none⟩) 3 (by simp only [List.flatten_cons, List.flatten_nil, List.append_nil, List.nil_append, List.append_assoc, List.cons_append]) (by first | omega | (simp only [List.length_append, List.length_cons, List.length_nil, Q2]; omega)) (by simp) W11 (J10 k_s33 (pvc (J03 (V := (lo G)) (n := 32) (off := 0) k_t5 Z5n (by decide) (by decide)) (pvc (J03 (V := V) (n := 32) (off := 0) k_t3 ap0 (by decide) (by decide)) (pvc Z0 pv0)))) (GA_ext hG off0.ext))
   intro W12 hO
   replace k_t3 := k_t3.o hO
   replace k_t5 := k_t5.o hO
   replace k_t7 := k_t7.o hO
   replace k_t9 := k_t9.o hO
   replace k_s33 := k_s33.o hO
   replace k_t11 := k_t11.o hO
   replace Z0 := Sl.off Z0 hO f0
   replace off0 := off0.o hO
   clear hO
   refine J2a (fun W => True) (fun W hS => trivial) trivial ?_
   refine J4c rfl ?_
   refine Lp ?_ k_t11 (cells := c4 U1)
   intro W13 hO h_
   replace k_t11 : Blk W13 Z9q (c4 U1) 153 := h_
   clear h_
   replace k_t3 := k_t3.p hO J3i
   replace k_t5 := k_t5.p hO J3j
   replace k_t7 := k_t7.p hO J3k
   replace k_t9 := k_t9.p hO nq_t9_t11
   replace k_s33 := k_s33.p hO J50
   replace Z0 := Sl.off Z0 hO (f1 J4m)
   replace off0 := off0.p hO J6g
   clear hO
   refine J2a (fun W => True) (fun W hS => trivial) trivial ?_
   refine Q3y ?_
   exact ⟨Q8a, Z9q, (by (simp only [Q5j, List.foldl_cons, List.foldl_nil, Act.put, mA, mB, mC] <;> rfl)), off0, k_t3, k_t5, k_t7, k_t9, k_s33, k_t11, Z0, Q4u, J7q, J7r, J7s, J7t, J9b, J6g, J3i, J3j, J3k, nq_t9_t11, J50, J4m⟩
  have _f := True.intro
  refine Ln ?_ (z := c4 0) (t := 153)
  intro Z9r W10 J1t hO h_
  have J3i := bn k_t3 J1t
  have J3j := bn k_t5 J1t
  have J3k := bn k_t7 J1t
  have nq_t9_t11 := bn k_t9 J1t
  have J4m := J2k (Sl.lt Z0) J1t
  have J6g := fbn off0 J1t
  replace k_t3 := k_t3.o hO
  replace k_t5 := k_t5.o hO
  replace k_t7 := k_t7.o hO
  replace k_t9 := k_t9.o hO
  replace Z0 := Sl.off Z0 hO f0
  replace off0 := off0.o hO
  have k_t11 := h_
  clear hO h_ J1t
  refine J2a (fun W => True) (fun W hS => trivial) trivial ?_
  refine J4c rfl ?_
  refine LnS ?_ (z := #[.slice (some ⟨J37, 0, none⟩) 32 64, .slice (some ⟨J0c, 0, none⟩) 32 32, v]) (t := 22) (n := 3) (c := 3) (hr := by exact J0h [.slice (some ⟨J37, 0, none⟩) 32 64, .slice (some ⟨J0c, 0, none⟩) 32 32, v] rfl rfl (vsc (rfl) (vsc (rfl) (vsc ((V3 Z0).1) vs0))) Tryz.underlying113 (by kernel_rfl) (by kernel_rfl) rfl (by decide) (by decide))
  intro Z9s W11 J5v hO h_
  have J7q := bn k_t3 J5v
  have J7r := bn k_t5 J5v
  have J7s := bn k_t7 J5v
  have J7t := bn k_t9 J5v
  have nq_t11_s33 := bn k_t11 J5v
  have J9b := J2k (Sl.lt Z0) J5v
  have Q4u := fbn off0 J5v
  replace k_t3 := k_t3.o hO
  replace k_t5 := k_t5.o hO
  replace k_t7 := k_t7.o hO
  replace k_t9 := k_t9.o hO
  replace k_t11 := k_t11.o hO
  replace Z0 := Sl.off Z0 hO f0
  replace off0 := off0.o hO
  have k_s33 := h_
  clear hO h_ J5v
  refine J2a (fun W => True) (fun W hS => trivial) trivial ?_
  refine J4c rfl ?_
  refine Lr ?_ (J6h (kn := kn) HU1.out [lb 32 (lo G), lb 32 V, L] (some ⟨Z9s, 0, none⟩) 3 (by simp only [List.flatten_cons, List.flatten_nil, List.append_nil, List.nil_append, List.append_assoc, List.cons_append]) (by first | omega | (simp only [List.length_append, List.length_cons, List.length_nil, Q2]; omega)) (by simp) W11 (J10 k_s33 (pvc (J03 (V := (lo G)) (n := 32) (off := 0) k_t5 Z5n (by decide) (by decide)) (pvc (J03 (V := V) (n := 32) (off := 0) k_t3 ap0 (by decide) (by decide)) (pvc Z0 pv0)))) (GA_ext hG off0.ext))
  intro W12 hO
  replace k_t3 := k_t3.o hO
  replace k_t5 := k_t5.o hO
  replace k_t7 := k_t7.o hO
  replace k_t9 := k_t9.o hO
  replace k_t11 := k_t11.o hO
  replace k_s33 := k_s33.o hO
  replace Z0 := Sl.off Z0 hO f0
  replace off0 := off0.o hO
  clear hO
  refine J2a (fun W => True) (fun W hS => trivial) trivial ?_
  refine J4c rfl ?_
  refine Lp ?_ k_t11 (cells := c4 U1)
  intro W13 hO h_
  replace k_t11 : Blk W13 Z9r (c4 U1) 153 := h_
  clear h_
  replace k_t3 := k_t3.p hO J3i
  replace k_t5 := k_t5.p hO J3j
  replace k_t7 := k_t7.p hO J3k
  replace k_t9 := k_t9.p hO nq_t9_t11
  replace k_s33 := k_s33.p hO nq_t11_s33.symm
  replace Z0 := Sl.off Z0 hO (f1 J4m)
  replace off0 := off0.p hO J6g
  clear hO
  refine J2a (fun W => True) (fun W hS => trivial) trivial ?_
  refine Q3y ?_
  exact ⟨Z9s, Z9r, (by (simp only [Q5j, List.foldl_cons, List.foldl_nil, Act.put, mA, mB, mC] <;> rfl)), off0, k_t3, k_t5, k_t7, k_t9, k_s33, k_t11, Z0, Q4u, J7q, J7r, J7s, J7t, J9b, J6g, J3i, J3j, J3k, nq_t9_t11, nq_t11_s33.symm, J4m⟩
 rintro _ W14 ⟨j_s33, j_t11, rfl, off0, k_t3, k_t5, k_t7, k_t9, k_s33, k_t11, Z0, Q4u, J7q, J7r, J7s, J7t, J9b, J6g, J3i, J3j, J3k, nq_t9_t11, J50, J4m⟩
 simp only [Q5j, List.foldl_cons, List.foldl_nil]
 (try simp only [Act.put, mA, mB, mC])
 go_upto_region 8 with fail
 refine Rx1 10 12 (z := p4 0 0 0 0) (t := 157) ?_
 refine Xf ?_ (fun W hW => c6 W (GA_ext (GA_ext hG off0.ext) hW).1)
 refine Xl ?_ k_t7
 refine Xf ?_ (fun W hW => Q1h h1 W (GA_ext (GA_ext hG off0.ext) hW).2.2.1)
 refine Xf ?_ (fun W hW => c12 W (GA_ext (GA_ext hG off0.ext) hW).1)
 refine Xl ?_ k_t9
 refine Xf ?_ (fun W hW => c18 W (GA_ext (GA_ext hG off0.ext) hW).1)
 refine Xl ?_ k_t11
 refine Xf ?_ (fun W hW => Q1h lU1 W (GA_ext (GA_ext hG off0.ext) hW).2.2.1)
 refine Xf ?_ (fun W hW => c24 W (GA_ext (GA_ext hG off0.ext) hW).1)
 refine Xf ?_ (fun W hW => c30 W (GA_ext (GA_ext hG off0.ext) hW).1)
 refine XN ?_
 intro Q4j W15 Q2l hE h_t12
 have hO := Z7 hE
 have Z5r := bn k_t5 Q2l
 have Z17 := fbn off0 Q2l
 replace k_t5 := k_t5.o hO
 replace off0 := off0.o hO
 clear hO hE Q2l
 have k_t12 : Blk W15 Q4j (p4 0 0 0 0) 157 := h_t12
 clear h_t12
 refine Lp ?_ k_t12 (cells := p4 x25 y26 z27 t28)
 intro W16 hO h_
 replace k_t12 : Blk W16 Q4j (p4 x25 y26 z27 t28) 157 := h_
 clear h_
 replace k_t5 := k_t5.p hO Z5r
 replace off0 := off0.p hO Z17
 clear hO
 refine LN ?_
 by_cases h3 : U2 = lo G
 ·
  have _f := h3
  go_upto_region 9 with fail
  refine Rx 6 ?_
  refine Xl ?_ k_t12
  refine Xf ?_ (fun W hW => Q86 r29.rw HU2.out W (GA_ext (GA_ext hG off0.ext) hW).1)
  refine Xw ?_ (v := .slice (some ⟨J37, 0, none⟩) 32 64)
  refine Xw ?_ (v := .pointer (some ⟨J37, 0, none⟩))
  refine Xls ?_ (sub := J0 .u8 32 (Q5 (lo G))) (j := 0) k_t5 Z5n
  have e_b := Z2p U2 (lo G) bU2 (Y69 _)
  rw [decide_eq_true h3] at e_b
  refine J59 (e_b) (by kernel_rfl) (by rfl) rfl rfl rfl ?_
  (try simp only [Act.put, mA, mB, mC])
  refine Z4 fun W17 hE => ?_
  have hO := Z7 hE
  replace k_t5 := k_t5.o hO
  replace k_t12 := k_t12.o hO
  replace off0 := off0.o hO
  clear hO hE
  refine LN ?_
  go_wp2
  rw [HU2.out, HU1.out] at h3
  have h3' : enc (vP V L G) = lo G := h3
  rw [show vfy V L G = 0 by unfold vfy; rw [if_neg (Nat.not_le.2 h1), if_neg (by rw [h2]; decide), if_pos h3']]
  exact bodyPost_ret (v := .int .i64 0) (by simp only [results, Tryz.results61]; go_simp) rfl ⟨rfl, off0.ext⟩
 have _f := h3
 go_upto_region 9 with fail
 refine Rx 6 ?_
 refine Xl ?_ k_t12
 refine Xf ?_ (fun W hW => Q86 r29.rw HU2.out W (GA_ext (GA_ext hG off0.ext) hW).1)
 refine Xw ?_ (v := .slice (some ⟨J37, 0, none⟩) 32 64)
 refine Xw ?_ (v := .pointer (some ⟨J37, 0, none⟩))
 refine Xls ?_ (sub := J0 .u8 32 (Q5 (lo G))) (j := 0) k_t5 Z5n
 have e_b := Z2p U2 (lo G) bU2 (Y69 _)
 rw [decide_eq_false h3] at e_b
 refine J59 (e_b) (by kernel_rfl) (by rfl) rfl rfl rfl ?_
 (try simp only [Act.put, mA, mB, mC])
 refine Z4 fun W17 hE => ?_
 have hO := Z7 hE
 replace off0 := off0.o hO
 clear hO hE
 refine LN ?_
 go_wp2
 rw [HU2.out, HU1.out] at h3
 have h3' : enc (vP V L G) ≠ lo G := h3
 rw [show vfy V L G = 16 by unfold vfy; rw [if_neg (Nat.not_le.2 h1), if_neg (by rw [h2]; decide), if_neg h3']]
 exact bodyPost_ret (v := .int .i64 16) (by simp only [results, Tryz.results61]; go_simp) rfl ⟨rfl, off0.ext⟩
theorem Z9t (hd : kn.d) (hb : kn.b) (hc : kn.c) {V G : Nat} (hV : V < 2 ^ 256) (hG2 : G < 2 ^ (256 + 256)) (v : Value) (L : List UInt8) (hL : L.length ≤ 1099511627776) (w : World) (hG : GA kn w) (hs : Sl w v L) :
    Calls Tryz.prog 61 #[.agg (J0 .u8 32 (Q5 V)), v, .agg (J0 .u8 64 (Q5 G))] w fun e w' => Ret (.int .i64 (vfy V L G : Int)) w w' e := by
  by_cases h1 : LL ≤ hi G
  · rw [show vfy V L G = 16 by unfold vfy; rw [if_pos h1]]; exact Z9l hd hb hc hV hG2 v L hL h1 w hG hs
  cases h2 : dOk V
  · rw [show vfy V L G = 15 by unfold vfy; rw [if_neg h1, if_pos h2]]; exact Z9n hd hb hc hV hG2 v L hL (Nat.not_le.1 h1) h2 w hG hs
  exact Z9o hd hb hc hV hG2 v L hL (Nat.not_le.1 h1) h2 w hG hs
end

section
set_option maxHeartbeats 1500000
set_option maxRecDepth 100000
open Go.RowKit
attribute [local irreducible] wpList

end
end Go.Proofs.YtejkmhgkkibafaaGreatDoor.S8

namespace Go.Proofs.YtejkmhgkkibafaaGreatDoor.S8.Sc
section
set_option maxHeartbeats 4000000
set_option maxRecDepth 100000
open Go.RowKit

theorem Z3n (X Y : Nat) (hX : X < Z3) (hY : Y < Z3) (w : World) :
    Calls Tryz.prog 154 #[A16 X, A16 Y] w fun e w' => Ret (.bool (decide (X < Y))) w w' e := by
  unfold A16
  go_enter Tryz.func154, Tryz.ntmps154
  go_wp2
  go_loopw [5] (fun ii wr => ∃ k : Nat, k ≤ 16 ∧ ii = .int .i64 ((k : Int) - 1) ∧ Below w.heap.size w wr ∧
      Blk wr w.heap.size (J0 .i64 16 (l16 X)) 121 ∧ Blk wr (w.heap.size + 1) (J0 .i64 16 (l16 Y)) 121 ∧ Hid (∀ i, k ≤ i → i < 16 → l16 X i = l16 Y i))
    (fun ii _ => (intOf ii + 1).toNat)
  case atStart =>
    refine ⟨16, Nat.le_refl _, rfl, ?_, K8 (U0 _ _ rfl) _, U0 _ _ (by simp), fun i h1 h2 => by omega⟩
    exact bz
  case round =>
    obtain ⟨k, hk, rfl, hbel, b2, b3, HE⟩ := hrel
    by_cases hk0 : k = 0
    · subst hk0
      go_wp2
      go_ret
      refine ⟨?_, hbel⟩
      have : X = Y := Y1s hX hY (fun i hi => HE i (Nat.zero_le _) hi)
      rw [this, show decide (Y < Y) = false by simp]; rfl
    obtain ⟨m, rfl⟩ : ∃ m, k = m + 1 := ⟨k - 1, by omega⟩
    have e1 : ((m + 1 : Nat) : Int) - 1 = (m : Int) := by omega
    rw [e1]
    clear hk0 e1
    have hm : (m : Int) < 16 := by omega
    have c2 := (Q6 b2 m).trans (J6 _ _ _ _ (by omega))
    have c3 := (Q6 b3 m).trans (J6 _ _ _ _ (by omega))
    by_cases he : l16 X m = l16 Y m
    · have HE' : Hid (∀ i, m ≤ i → i < 16 → l16 X i = l16 Y i) := fun i h1 h2 => by
        by_cases h : i = m
        · subst h; exact he
        exact HE i (by omega) h2
      have hb : (l16 X m != l16 Y m) = false := by simp [he]
      clear he
      go_wp2
      go_region
      go_wp2
      go_roundw
      case rel => exact ⟨m, by omega, rfl, hbel.drew, J08 b2, J08 b3, HE'⟩
      case measure => (first | (simp [intOf]; done) | (simp [intOf]; omega))
    have hb : (l16 X m != l16 Y m) = true := by simp [he]
    have hv : decide (X < Y) = decide (l16 X m < l16 Y m) := by
      rw [Bool.eq_iff_iff, decide_eq_true_iff, decide_eq_true_iff]
      constructor
      · intro h
        exact Int.lt_of_not_ge fun hge => by
          have := Q2i m (by omega) hY hX (fun i h1 h2 => (HE i (by omega) h2).symm) (by omega)
          omega
      exact Q2i m (by omega) hX hY (fun i h1 h2 => HE i (by omega) h2)
    have HV := Lib.hid hv
    clear he hv
    go_wp2
    go_region
    go_wp2
    go_region
    go_wp2
    go_ret
    refine ⟨by rw [HV.out]; rfl, ?_⟩
    exact bz
end

section
set_option maxHeartbeats 4000000
set_option maxRecDepth 100000
open Go.RowKit

end

section
set_option maxHeartbeats 1000000
set_option maxRecDepth 100000
open Go.RowKit

end

section
set_option maxHeartbeats 1000000
set_option maxRecDepth 100000
open Go.RowKit

end

section
set_option maxHeartbeats 1000000
set_option maxRecDepth 100000
open Go.RowKit

end

section
set_option maxHeartbeats 4000000
set_option maxRecDepth 100000
open Go.RowKit

end

section
set_option maxHeartbeats 4000000
set_option maxRecDepth 100000
open Go.RowKit

end

section
set_option maxHeartbeats 4000000
set_option maxRecDepth 100000
open Go.RowKit

end

section
set_option maxHeartbeats 2000000
set_option maxRecDepth 100000
open Go.RowKit

end
end Go.Proofs.YtejkmhgkkibafaaGreatDoor.S8.Sc

namespace Go.Proofs.YtejkmhgkkibafaaGreatDoor.S8
section
set_option maxHeartbeats 1500000
set_option maxRecDepth 100000
open Go.RowKit
attribute [local irreducible] wpList
end

section
set_option maxHeartbeats 1500000
set_option maxRecDepth 100000
open Go.RowKit
attribute [local irreducible] wpList
end

section
set_option maxHeartbeats 1500000
set_option maxRecDepth 100000
open Go.RowKit
attribute [local irreducible] wpList
abbrev T3 := Nat × Nat × Nat
def qc (s : T3) : Array Value := p3 s.1 s.2.1 s.2.2
end

section
set_option maxHeartbeats 1500000
set_option maxRecDepth 100000
open Go.RowKit
attribute [local irreducible] wpList

end

section
set_option maxHeartbeats 1500000
set_option maxRecDepth 100000
open Go.RowKit
attribute [local irreducible] wpList

end

section
set_option maxHeartbeats 1000000
set_option maxRecDepth 100000
open Go.RowKit
attribute [local irreducible] wpList
open Sc (LL J4l)
variable {kn : Kn}
section
variable {w : World} {o : Oper} {a : Act} {x y : Operand} {t : TypeId}
end
end

section
open Go.RowKit
attribute [local irreducible] wpList
variable {kn : Kn}
open Sc (LL J4l)
theorem sig_lt (S : Nat) (L : List UInt8) : sig S L < 2 ^ (256 + 256) := by
  have h1 := Z9u S L
  have h2 : sT S L < 2 ^ 256 := Nat.lt_trans (Y6a S L) J36
  refine Nat.lt_of_lt_of_eq ?_ (Nat.pow_add 2 256 256).symm
  unfold sig
  generalize (2 : Nat) ^ 256 = T at *
  have : T * (sT S L + 1) ≤ T * T := Nat.mul_le_mul_left T h2
  rw [Nat.mul_add] at this
  omega
theorem signN_c (hd : kn.d) (hb : kn.b) {X S : Nat} {L : List UInt8} (hX : X = sig S L) (v : Value) (L' : List UInt8) (hL : L.length ≤ 1099511627776) (w : World) (hG : GA kn w) (hs : Sl w v L) :
    Calls Tryz.prog 52 #[.agg (J0 .u8 32 (Q5 S)), v] w fun e w' => Ret (.agg (J0 .u8 64 (Q5 X))) w w' e := hX ▸ Y9b hd hb S v L hL w hG hs
theorem verifyN_c (hd : kn.d) (hb : kn.b) (hc : kn.c) {X V G : Nat} {L : List UInt8} (hX : X = vfy V L G) (hV : V < 2 ^ 256) (hG2 : G < 2 ^ (256 + 256)) (v : Value) (L' : List UInt8) (hL : L.length ≤ 1099511627776) (w : World) (hG : GA kn w) (hs : Sl w v L) :
    Calls Tryz.prog 61 #[.agg (J0 .u8 32 (Q5 V)), v, .agg (J0 .u8 64 (Q5 G))] w fun e w' => Ret (.int .i64 (X : Int)) w w' e := hX ▸ Z9t hd hb hc hV hG2 v L hL w hG hs
theorem sign_back (S : Nat) (L : List UInt8) : vfy (kP S) L (sig S L) = 0 := by
  have hN := Q2p Q2m (kN S)
  have hd : dOk (kP S) = true ∧ dPt (kP S) = pm BP (kN S) := Y3b hN
  have hk : vK (kP S) L (sig S L) = sK S L := by unfold vK; rw [Z9v]; rfl
  have e1 : pm BP (sT S L) = J1l (pm BP (sR S L)) (pm (pm BP (kN S)) (sK S L)) := by
    unfold sT
    rw [Z1g, Q4o Q2m, Z1g, Nat.mul_comm, Z1c Q2m, Z1g]
  have hp : vP (kP S) L (sig S L) = pm BP (sR S L) := by
    unfold vP
    rw [hk, Z9w, hd.2, e1, Z3h, Q4n (Q2p Q2m _) (Q2p hN _) (Q7z (Q2p hN _)), Z8x (Q2p hN _), Z3g]
  unfold vfy
  rw [Z9w, if_neg (Nat.not_le.2 (Y6a S L)), hd.1, if_neg (by decide), hp, Z9v, if_pos (by rfl)]

end
end Go.Proofs.YtejkmhgkkibafaaGreatDoor.S8

namespace Go.Proofs.YtejkmhgkkibafaaGreatDoor
open Go.RowKit

def xo4 (p q : Int) : Int := bits .xor .u32 p q
def an4 (p q : Int) : Int := bits .and .u32 p q
def oo4 (p q : Int) : Int := bits .or .u32 p q
def nt4 (p : Int) : Int := bits .xor .u32 4294967295 p
def ad4 (p q : Int) : Int := IntKind.wrap .u32 (p + q)
def sl4 (p : Int) (n : Nat) : Int := IntKind.wrap .u32 (p * 2 ^ n)
def sr4 (p : Int) (n : Nat) : Int := p / 2 ^ n
def rt4 (p : Int) (n : Nat) : Int := oo4 (sr4 p n) (sl4 p (32 - n))
theorem Y09 (p q : Int) : oo4 p q = oo4 q p := by unfold oo4; simp only [bits, BitVec.or_comm]
section
variable {P : Program} {w : World} {o : Oper} {a : Act} {x y : Operand} {t t' : TypeId} {p q : Int}
theorem J6j (ho : o.op = .binOp .xor t x y t') (hx : a.eval x = .int .u32 p) (hy : a.eval y = .int .u32 q) : (execOp a.eval o).run P w = .ok (.value (.int .u32 (xo4 p q))) w := by
  simp only [execOp, ho, hx, hy]; rfl
theorem J9e (ho : o.op = .binOp .and t x y t') (hx : a.eval x = .int .u32 p) (hy : a.eval y = .int .u32 q) : (execOp a.eval o).run P w = .ok (.value (.int .u32 (an4 p q))) w := by
  simp only [execOp, ho, hx, hy]; rfl
theorem Z3x (ho : o.op = .binOp .or t x y t') (hx : a.eval x = .int .u32 p) (hy : a.eval y = .int .u32 q) : (execOp a.eval o).run P w = .ok (.value (.int .u32 (oo4 p q))) w := by
  simp only [execOp, ho, hx, hy]; rfl
theorem J4n (ho : o.op = .binOp .add t x y t') (hx : a.eval x = .int .u32 p) (hy : a.eval y = .int .u32 q) : (execOp a.eval o).run P w = .ok (.value (.int .u32 (ad4 p q))) w := by
  simp only [execOp, ho, hx, hy]; rfl
theorem Y0d (ho : o.op = .unOp .xor t x) (hx : a.eval x = .int .u32 p) : (execOp a.eval o).run P w = .ok (.value (.int .u32 (nt4 p))) w := by
  simp only [execOp, ho, hx]; rfl
theorem Z01 {k : IntKind} {n : Nat} (hn : n ≤ 32) (ho : o.op = .binOp .shl t x y t') (hx : a.eval x = .int .u32 p) (hy : a.eval y = .int k (n : Int)) : (execOp a.eval o).run P w = .ok (.value (.int .u32 (sl4 p n))) w := by
  have h : min ((n : Int)).toNat IntKind.u32.bits = n := by rw [Int.toNat_natCast]; exact Nat.min_eq_left hn
  simp only [execOp, ho, hx, hy, eqGuard, binOp, Sem.run_bind]
  simp [Op.shift, h, sl4, go_sem, Sem.run_bind]
theorem J9d {k : IntKind} {n : Nat} (hn : n ≤ 32) (ho : o.op = .binOp .shr t x y t') (hx : a.eval x = .int .u32 p) (hy : a.eval y = .int k (n : Int)) : (execOp a.eval o).run P w = .ok (.value (.int .u32 (sr4 p n))) w := by
  have h : min ((n : Int)).toNat IntKind.u32.bits = n := by rw [Int.toNat_natCast]; exact Nat.min_eq_left hn
  simp only [execOp, ho, hx, hy, eqGuard, binOp, Sem.run_bind]
  simp [Op.shift, h, sr4, go_sem, Sem.run_bind]
end
end Go.Proofs.YtejkmhgkkibafaaGreatDoor
