/- sign: Sign. Conditions: the cells of the variables hold their numbers. -/
import Derived.Test.YtejkmhgkkibafaaGreatDoorGc
import Derived.Test.YtejkmhgkkibafaaGreatDoorJ6
import Derived.Test.YtejkmhgkkibafaaGreatDoorJ3
import Derived.Test.YtejkmhgkkibafaaGreatDoorJ9
import Derived.Test.YtejkmhgkkibafaaGreatDoorJ18
set_option linter.unusedSimpArgs false
set_option linter.unusedVariables false
namespace Go.Proofs.YtejkmhgkkibafaaGreatDoor.S8
set_option maxHeartbeats 1000000
set_option maxRecDepth 100000
open Go.RowKit
attribute [local irreducible] wpList J0k
variable {kn : Kn}
open Sc (LL J4l)
theorem spreadN_c (hd : kn.d) (hb : kn.b) {N D P S : Nat} (hN : N = kN S) (hD : D = kD S) (hP : P = kP S) (w : World) (hG : GA kn w) :
    Calls Tryz.prog 77 #[.agg (J0 .u8 32 (Q5 S))] w fun e w' => Ret (.agg (s3 N D P)) w w' e := by
  rw [hN, hD, hP]; exact Z5m hd hb S w hG
theorem Q9w {w : World} {v : Value} {l : List UInt8} (h : Own w v l) (hp : 0 < l.length) : ∃ g c cur, v = .slice (some ⟨g, 0, none⟩) l.length c ∧ Blk w g cur 5 ∧ cur.toList.take l.length = bs8 l := by
  rcases h.2 with ⟨_, h0⟩ | ⟨g, c, cur, hv, _, hh, _, _, _, ht⟩
  · omega
  exact ⟨g, c, cur, hv, hh, by rwa [Nat.mul_one] at ht⟩
theorem Y3n {P : Program} {W : World} {o : Oper} {a : Act} {x : Operand} {arr e : TypeId} {n c : Nat} {ad : Addr} (ho : o.op = .sliceToArrayPointer arr x) (hx : a.eval x = .slice (some ad) n c) (hu : P.underlying arr = some (.array n e)) : (execOp a.eval o).run P W = .ok (.value (.pointer (some ad))) W := by
  simp [execOp, ho, hx, Instr.arrayAt, run_underlying hu, Sem.run_bind]
theorem Y3o {A T : Nat} (hA : A < 2 ^ 256) : lb 32 A ++ lb 32 T = lb 64 (A + 2 ^ 256 * T) := by
  rw [V3l]
  unfold lo hi
  rw [Nat.add_mul_mod_self_left, Nat.mod_eq_of_lt hA, Nat.add_mul_div_left _ _ (by decide), Nat.div_eq_of_lt hA, Nat.zero_add]
theorem Y9a {W : World} {v : Value} {l : List UInt8} {g c m n V : Nat} (h : Own W v l) (ez : v = .slice (some ⟨g, 0, none⟩) m c) (hn : l.length = n) (hp : 0 < n) (hl : l = lb n V) : ∀ i x, (J0 .u8 n (Q5 V)).toList[i]? = some x → W.cell? ⟨g, 0 + i, none⟩ = some x := fun i x hx => by
  obtain ⟨g', c', cur, e', hB, ht⟩ := Q9w h (by omega)
  rw [ez] at e'
  injection e' with e1 _ _
  injection e1 with e1
  injection e1 with e1 _ _
  subst e1
  have hi : i < n := by have := (List.getElem?_eq_some_iff.1 hx).1; rwa [Array.length_toList, J2] at this
  rw [Q6 hB, Nat.zero_add, ← Array.getElem?_toList, ← List.getElem?_take_of_lt (l := cur.toList) (show i < l.length by rw [hn]; exact hi), ht, hl, Q3o, ← J4u]
  exact hx
theorem Y9b (hd : kn.d) (hb : kn.b) (S : Nat) (v : Value) (L : List UInt8) (hL : L.length ≤ 1099511627776) :
  ∀ w, GA kn w → Sl w v L → Calls Tryz.prog 52 #[.agg (J0 .u8 32 (Q5 S)), v] w fun e w' => Ret (.agg (J0 .u8 64 (Q5 (sig S L)))) w w' e := by
 obtain ⟨U1, hU1⟩ := exn (kN S)
 have bU1 : U1 < 2 ^ 256 := by rw [hU1]; exact V3m _
 have HU1 := Lib.hid hU1
 clear hU1
 obtain ⟨U2, hU2⟩ := exn (kD S)
 have bU2 : U2 < 2 ^ 256 := by rw [hU2]; exact V3n _
 have HU2 := Lib.hid hU2
 clear hU2
 obtain ⟨U3, hU3⟩ := exn (kP S)
 have bU3 : U3 < 2 ^ 256 := by rw [hU3]; exact kP_lt _
 have HU3 := Lib.hid hU3
 clear hU3
 obtain ⟨U4, hU4⟩ := exn (hs ((lb 32 U2) ++ L) % LL)
 have lU4 : U4 < LL := by rw [hU4]; exact mLL _
 have bU4 : U4 < 2 ^ 256 := Nat.lt_trans lU4 J36
 have HU4 := Lib.hid hU4
 clear hU4
 obtain ⟨x1, y2, z3, t4, r5, c6⟩ := Q7t hb
 obtain ⟨x7, y8, z9, t10, r11, c12⟩ := Q1e hd r5.rw (N := U4) (Nat.lt_trans lU4 J36)
 obtain ⟨U5, hU5⟩ := exn (enc (pm BP U4))
 have bU5 : U5 < 2 ^ 256 := by rw [hU5]; exact Q4r _
 have HU5 := Lib.hid hU5
 clear hU5
 obtain ⟨U6, hU6⟩ := exn (hs ((lb 32 U5) ++ (lb 32 U3) ++ L) % LL)
 have lU6 : U6 < LL := by rw [hU6]; exact mLL _
 have bU6 : U6 < 2 ^ 256 := Nat.lt_trans lU6 J36
 have HU6 := Lib.hid hU6
 clear hU6
 obtain ⟨U7, hU7⟩ := exn (U1 % LL)
 have lU7 : U7 < LL := by rw [hU7]; exact mLL _
 have bU7 : U7 < 2 ^ 256 := Nat.lt_trans lU7 J36
 have HU7 := Lib.hid hU7
 clear hU7
 obtain ⟨U8, hU8⟩ := exn (U6 * U7 % LL)
 have lU8 : U8 < LL := by rw [hU8]; exact mLL _
 have bU8 : U8 < 2 ^ 256 := Nat.lt_trans lU8 J36
 have HU8 := Lib.hid hU8
 clear hU8
 obtain ⟨U9, hU9⟩ := exn ((U4 + U8) % LL)
 have lU9 : U9 < LL := by rw [hU9]; exact mLL _
 have bU9 : U9 < 2 ^ 256 := Nat.lt_trans lU9 J36
 have HU9 := Lib.hid hU9
 clear hU9
 intro w hG hs
 have Z0 := hs
 have off0 : Off [] w w := Off.refl _ _
 go_enter Tryz.func52, Tryz.ntmps52
 go_upto_region 0 with fail
 refine wp_region_lit ?_
 refine Ln ?_ (z := J0 .u8 32 (Q5 S)) (t := 23)
 intro J0a W1 J0l hO h_
 replace Z0 := Sl.off Z0 hO f0
 replace off0 := off0.o hO
 have k_t2 := h_
 clear hO h_ J0l
 refine Ln ?_ (z := J0 .u8 64 (Q5 0)) (t := 45)
 intro Q06 W2 J2l hO h_
 have J4r := fbn off0 J2l
 replace k_t2 := k_t2.o hO
 replace Z0 := Sl.off Z0 hO f0
 replace off0 := off0.o hO
 have k_t4 := h_
 clear hO h_ J2l
 refine J3 ?_
 go_upto_region 1 with fail
 refine wp_region_lit ?_
 refine L0A ?_ k_t2
 refine Lr ?_ (spreadN_c hd hb HU1.out HU2.out HU3.out W2 (GA_ext hG off0.ext))
 intro W3 hO
 replace k_t2 := k_t2.o hO
 replace k_t4 := k_t4.o hO
 replace Z0 := Sl.off Z0 hO f0
 replace off0 := off0.o hO
 clear hO
 refine LnP ?_ (z := s3 0 0 0) (t := 140) (cells := s3 U1 U2 U3) (hi := by rw [J2m]; kernel_rfl) (hs := by first | rw [J2m, J2m] | rw [J2m] | kernel_rfl) (h1 := by exact Z1h)
 intro J47 W5 J1k hO h_
 replace k_t2 := k_t2.o hO
 replace k_t4 := k_t4.o hO
 replace Z0 := Sl.off Z0 hO f0
 replace off0 := off0.o hO
 have k_t5 := h_
 clear hO h_ J1k
 refine J3 ?_
 go_upto_region 2 with fail
 refine wp_region_lit ?_
 refine Lv ?_
 refine Lw ?_ (v := .slice (some ⟨J47, 32, none⟩) 32 32) (hv := by first | rfl | (go_simp; done) | (go_simp; with_reducible rfl))
 refine Lv ?_
 refine LnS ?_ (z := #[.slice (some ⟨J47, 32, none⟩) 32 32, v]) (t := 22) (n := 2) (c := 2) (hr := by exact J0h [.slice (some ⟨J47, 32, none⟩) 32 32, v] rfl rfl (vsc (rfl) (vsc ((V3 Z0).1) vs0)) Tryz.underlying113 (by kernel_rfl) (by kernel_rfl) rfl (by decide) (by decide))
 intro Z3o W6 V3o hO h_
 replace k_t2 := k_t2.o hO
 replace k_t4 := k_t4.o hO
 replace k_t5 := k_t5.o hO
 replace Z0 := Sl.off Z0 hO f0
 replace off0 := off0.o hO
 have k_s15 := h_
 clear hO h_ V3o
 refine Lr ?_ (J6h (kn := kn) HU4.out [lb 32 U2, L] (some ⟨Z3o, 0, none⟩) 2 (by simp only [List.flatten_cons, List.flatten_nil, List.append_nil, List.nil_append, List.append_assoc, List.cons_append]) (by first | omega | (simp only [List.length_append, List.length_cons, List.length_nil, Q2]; omega)) (by simp) W6 (J10 k_s15 (pvc (J03 (V := U2) (n := 32) (off := 32) k_t5 V5p (by decide) (by decide)) (pvc Z0 pv0))) (GA_ext hG off0.ext))
 intro W7 hO
 replace k_t2 := k_t2.o hO
 replace k_t4 := k_t4.o hO
 replace k_t5 := k_t5.o hO
 replace k_s15 := k_s15.o hO
 replace Z0 := Sl.off Z0 hO f0
 replace off0 := off0.o hO
 clear hO
 refine LnP ?_ (z := c4 0) (t := 153) (cells := c4 U4)
 intro Y9c W9 J3e hO h_
 replace k_t2 := k_t2.o hO
 replace k_t4 := k_t4.o hO
 replace k_t5 := k_t5.o hO
 replace k_s15 := k_s15.o hO
 replace Z0 := Sl.off Z0 hO f0
 replace off0 := off0.o hO
 have k_t6 := h_
 clear hO h_ J3e
 refine J3 ?_
 go_upto_region 3 with fail
 refine Rx1 5 7 (z := J0 .u8 32 (Q5 0)) (t := 23) ?_
 refine Xf ?_ (fun W hW => c6 W (GA_ext (GA_ext hG off0.ext) hW).1)
 refine Xl ?_ k_t6
 refine Xf ?_ (fun W hW => Q1h lU4 W (GA_ext (GA_ext hG off0.ext) hW).2.2.1)
 refine Xf ?_ (fun W hW => c12 W (GA_ext (GA_ext hG off0.ext) hW).1)
 refine Xf ?_ (fun W hW => Q86 r11.rw HU5.out W (GA_ext (GA_ext hG off0.ext) hW).1)
 refine XN ?_
 intro J7k W10 J0n hE h_t7
 have hO := Z7 hE
 have nq_t2_t7 := bn k_t2 J0n
 have Q4h := bn k_t4 J0n
 have J14 := bn k_t5 J0n
 have Z5o := bn k_s15 J0n
 have J2s := bn k_t6 J0n
 have Y3p := J2k (Sl.lt Z0) J0n
 have J5c := fbn off0 J0n
 replace k_t2 := k_t2.o hO
 replace k_t4 := k_t4.o hO
 replace k_t5 := k_t5.o hO
 replace k_s15 := k_s15.o hO
 replace k_t6 := k_t6.o hO
 replace Z0 := Sl.off Z0 hO f0
 replace off0 := off0.o hO
 clear hO hE J0n
 have k_t7 : Blk W10 J7k (J0 .u8 32 (Q5 0)) 23 := h_t7
 clear h_t7
 refine LpA ?_ k_t7 (k := .u8) (n := 32) (f := Q5 U5)
 intro W11 hO h_
 replace k_t7 : Blk W11 J7k (J0 .u8 32 (Q5 U5)) 23 := h_
 clear h_
 replace k_t2 := k_t2.p hO nq_t2_t7
 replace k_t4 := k_t4.p hO Q4h
 replace k_t5 := k_t5.p hO J14
 replace k_s15 := k_s15.p hO Z5o
 replace k_t6 := k_t6.p hO J2s
 replace Z0 := Sl.off Z0 hO (f1 Y3p)
 replace off0 := off0.p hO J5c
 clear hO
 refine LN ?_
 go_upto_region 4 with fail
 refine Q0b (.q 0 (.q 1 (.q 2 (.q 3 (.b 4 (.b 5 (.e 6 (.e 7 .z)) 6 (.e 5 (.e 7 .z))) 6 (.e 4 (.e 5 (.e 7 .z)))))))) (fun W => True) (fun a0 a_ wr => ∃ (j_s26 : Nat) (j_t8 : Nat), a_ = Q5j a0 [(22, .slice (some ⟨J7k, 0, none⟩) 32 32), (23, .pointer (some ⟨J47, 64, none⟩)), (24, .slice (some ⟨J47, 64, none⟩) 32 32), (25, v), (26, .slice (some ⟨j_s26, 0, none⟩) 3 3), (27, .agg (c4 U6)), (8, .pointer (some ⟨j_t8, 0, none⟩))] ∧ Off [] w wr ∧ Blk wr J0a (J0 .u8 32 (Q5 S)) 23 ∧ Blk wr Q06 (J0 .u8 64 (Q5 0)) 45 ∧ Blk wr J47 (s3 U1 U2 U3) 140 ∧ Blk wr Z3o #[.slice (some ⟨J47, 32, none⟩) 32 32, v] 22 ∧ Blk wr Y9c (c4 U4) 153 ∧ Blk wr J7k (J0 .u8 32 (Q5 U5)) 23 ∧ Blk wr j_s26 #[.slice (some ⟨J7k, 0, none⟩) 32 32, .slice (some ⟨J47, 64, none⟩) 32 32, v] 22 ∧ Blk wr j_t8 (c4 U6) 153 ∧ Sl wr v L ∧ Fb j_s26 w.heap.size [] ∧ J0a ≠ j_s26 ∧ Q06 ≠ j_s26 ∧ J47 ≠ j_s26 ∧ Z3o ≠ j_s26 ∧ Y9c ≠ j_s26 ∧ J7k ≠ j_s26 ∧ (sb v L) ≠ some j_s26 ∧ Fb j_t8 w.heap.size [] ∧ J0a ≠ j_t8 ∧ Q06 ≠ j_t8 ∧ J47 ≠ j_t8 ∧ Z3o ≠ j_t8 ∧ Y9c ≠ j_t8 ∧ J7k ≠ j_t8 ∧ j_s26 ≠ j_t8 ∧ (sb v L) ≠ some j_t8) (by kernel_rfl) (by kernel_rfl) ?_ ?_
 ·
  have _f := True.intro
  intro W12 hO
  replace k_t2 := k_t2.o hO
  replace k_t4 := k_t4.o hO
  replace k_t5 := k_t5.o hO
  replace k_s15 := k_s15.o hO
  replace k_t6 := k_t6.o hO
  replace k_t7 := k_t7.o hO
  replace Z0 := Sl.off Z0 hO f0
  replace off0 := off0.o hO
  clear hO
  refine ⟨trivial, ?_⟩
  refine J8n (v := .slice (some ⟨J7k, 0, none⟩) 32 32) rfl (by rfl) (fun W hS => by first | rfl | (go_simp; done) | (go_simp; with_reducible rfl)) ?_
  (try simp only [Act.put, mA, mB, mC])
  (refine J8n (v := ?_) rfl (by rfl) (fun W hS => ?_) ?_; rotate_left 1; (focus (go_simp; first | done | with_reducible rfl)))
  (try simp only [Act.put, mA, mB, mC])
  refine J8n (v := .slice (some ⟨J47, 64, none⟩) 32 32) rfl (by rfl) (fun W hS => by first | rfl | (go_simp; done) | (go_simp; with_reducible rfl)) ?_
  (try simp only [Act.put, mA, mB, mC])
  (refine J8n (v := ?_) rfl (by rfl) (fun W hS => ?_) ?_; rotate_left 1; (focus (go_simp; first | done | with_reducible rfl)))
  (try simp only [Act.put, mA, mB, mC])
  refine Q93 rfl rfl ?_ ?_
  ·
   have _f := True.intro
   refine LnS ?_ (z := #[.slice (some ⟨J7k, 0, none⟩) 32 32, .slice (some ⟨J47, 64, none⟩) 32 32, v]) (t := 22) (n := 3) (c := 3) (hr := by exact J0h [.slice (some ⟨J7k, 0, none⟩) 32 32, .slice (some ⟨J47, 64, none⟩) 32 32, v] rfl rfl (vsc (rfl) (vsc (rfl) (vsc ((V3 Z0).1) vs0))) Tryz.underlying113 (by kernel_rfl) (by kernel_rfl) rfl (by decide) (by decide))
   intro Q87 W13 J46 hO h_
   have J7l := bn k_t2 J46
   have J7m := bn k_t4 J46
   have J7n := bn k_t5 J46
   have J6i := bn k_s15 J46
   have J7o := bn k_t6 J46
   have J7p := bn k_t7 J46
   have J9a := J2k (Sl.lt Z0) J46
   have Q4s := fbn off0 J46
   replace k_t2 := k_t2.o hO
   replace k_t4 := k_t4.o hO
   replace k_t5 := k_t5.o hO
   replace k_s15 := k_s15.o hO
   replace k_t6 := k_t6.o hO
   replace k_t7 := k_t7.o hO
   replace Z0 := Sl.off Z0 hO f0
   replace off0 := off0.o hO
   have k_s26 := h_
   clear hO h_ J46
   refine J2a (fun W => True) (fun W hS => trivial) trivial ?_
   refine Q93 rfl rfl ?_ ?_
   ·
    have _f := True.intro
    refine Lr ?_ (J6h (kn := kn) HU6.out [lb 32 U5, lb 32 U3, L] (some ⟨Q87, 0, none⟩) 3 (by simp only [List.flatten_cons, List.flatten_nil, List.append_nil, List.nil_append, List.append_assoc, List.cons_append]) (by first | omega | (simp only [List.length_append, List.length_cons, List.length_nil, Q2]; omega)) (by simp) W13 (J10 k_s26 (pvc (J03 (V := U5) (n := 32) (off := 0) k_t7 ap0 (by decide) (by decide)) (pvc (J03 (V := U3) (n := 32) (off := 64) k_t5 Y94 (by decide) (by decide)) (pvc Z0 pv0)))) (GA_ext hG off0.ext))
    intro W14 hO
    replace k_t2 := k_t2.o hO
    replace k_t4 := k_t4.o hO
    replace k_t5 := k_t5.o hO
    replace k_s15 := k_s15.o hO
    replace k_t6 := k_t6.o hO
    replace k_t7 := k_t7.o hO
    replace k_s26 := k_s26.o hO
    replace Z0 := Sl.off Z0 hO f0
    replace off0 := off0.o hO
    clear hO
    refine J2a (fun W => True) (fun W hS => trivial) trivial ?_
    refine J4c rfl ?_
    refine Ln ?_ (z := c4 0) (t := 153)
    intro Y66 W15 J1b hO h_
    have J2c := bn k_t2 J1b
    have J2d := bn k_t4 J1b
    have J2e := bn k_t5 J1b
    have J3h := bn k_s15 J1b
    have J2f := bn k_t6 J1b
    have J35 := bn k_t7 J1b
    have J62 := bn k_s26 J1b
    have J61 := J2k (Sl.lt Z0) J1b
    have J6f := fbn off0 J1b
    replace k_t2 := k_t2.o hO
    replace k_t4 := k_t4.o hO
    replace k_t5 := k_t5.o hO
    replace k_s15 := k_s15.o hO
    replace k_t6 := k_t6.o hO
    replace k_t7 := k_t7.o hO
    replace k_s26 := k_s26.o hO
    replace Z0 := Sl.off Z0 hO f0
    replace off0 := off0.o hO
    have k_t8 := h_
    clear hO h_ J1b
    refine J2a (fun W => True) (fun W hS => trivial) trivial ?_
    refine J4c rfl ?_
    refine Lp ?_ k_t8 (cells := c4 U6)
    intro W16 hO h_
    replace k_t8 : Blk W16 Y66 (c4 U6) 153 := h_
    clear h_
    replace k_t2 := k_t2.p hO J2c
    replace k_t4 := k_t4.p hO J2d
    replace k_t5 := k_t5.p hO J2e
    replace k_s15 := k_s15.p hO J3h
    replace k_t6 := k_t6.p hO J2f
    replace k_t7 := k_t7.p hO J35
    replace k_s26 := k_s26.p hO J62
    replace Z0 := Sl.off Z0 hO (f1 J61)
    replace off0 := off0.p hO J6f
    clear hO
    refine J2a (fun W => True) (fun W hS => trivial) trivial ?_
    refine Q3y ?_
    exact ⟨Q87, Y66, (by (simp only [Q5j, List.foldl_cons, List.foldl_nil, Act.put, mA, mB, mC] <;> rfl)), off0, k_t2, k_t4, k_t5, k_s15, k_t6, k_t7, k_s26, k_t8, Z0, Q4s, J7l, J7m, J7n, J6i, J7o, J7p, J9a, J6f, J2c, J2d, J2e, J3h, J2f, J35, J62, J61⟩
   have _f := True.intro
   refine Ln ?_ (z := c4 0) (t := 153)
   intro Y67 W14 J1b hO h_
   have J2c := bn k_t2 J1b
   have J2d := bn k_t4 J1b
   have J2e := bn k_t5 J1b
   have J3h := bn k_s15 J1b
   have J2f := bn k_t6 J1b
   have J35 := bn k_t7 J1b
   have J62 := bn k_s26 J1b
   have J61 := J2k (Sl.lt Z0) J1b
   have J6f := fbn off0 J1b
   replace k_t2 := k_t2.o hO
   replace k_t4 := k_t4.o hO
   replace k_t5 := k_t5.o hO
   replace k_s15 := k_s15.o hO
   replace k_t6 := k_t6.o hO
   replace k_t7 := k_t7.o hO
   replace k_s26 := k_s26.o hO
   replace Z0 := Sl.off Z0 hO f0
   replace off0 := off0.o hO
   have k_t8 := h_
   clear hO h_ J1b
   refine J2a (fun W => True) (fun W hS => trivial) trivial ?_
   refine J4c rfl ?_
   refine Lr ?_ (J6h (kn := kn) HU6.out [lb 32 U5, lb 32 U3, L] (some ⟨Q87, 0, none⟩) 3 (by simp only [List.flatten_cons, List.flatten_nil, List.append_nil, List.nil_append, List.append_assoc, List.cons_append]) (by first | omega | (simp only [List.length_append, List.length_cons, List.length_nil, Q2]; omega)) (by simp) W14 (J10 k_s26 (pvc (J03 (V := U5) (n := 32) (off := 0) k_t7 ap0 (by decide) (by decide)) (pvc (J03 (V := U3) (n := 32) (off := 64) k_t5 Y94 (by decide) (by decide)) (pvc Z0 pv0)))) (GA_ext hG off0.ext))
   intro W15 hO
   replace k_t2 := k_t2.o hO
   replace k_t4 := k_t4.o hO
   replace k_t5 := k_t5.o hO
   replace k_s15 := k_s15.o hO
   replace k_t6 := k_t6.o hO
   replace k_t7 := k_t7.o hO
   replace k_s26 := k_s26.o hO
   replace k_t8 := k_t8.o hO
   replace Z0 := Sl.off Z0 hO f0
   replace off0 := off0.o hO
   clear hO
   refine J2a (fun W => True) (fun W hS => trivial) trivial ?_
   refine J4c rfl ?_
   refine Lp ?_ k_t8 (cells := c4 U6)
   intro W16 hO h_
   replace k_t8 : Blk W16 Y67 (c4 U6) 153 := h_
   clear h_
   replace k_t2 := k_t2.p hO J2c
   replace k_t4 := k_t4.p hO J2d
   replace k_t5 := k_t5.p hO J2e
   replace k_s15 := k_s15.p hO J3h
   replace k_t6 := k_t6.p hO J2f
   replace k_t7 := k_t7.p hO J35
   replace k_s26 := k_s26.p hO J62
   replace Z0 := Sl.off Z0 hO (f1 J61)
   replace off0 := off0.p hO J6f
   clear hO
   refine J2a (fun W => True) (fun W hS => trivial) trivial ?_
   refine Q3y ?_
   exact ⟨Q87, Y67, (by (simp only [Q5j, List.foldl_cons, List.foldl_nil, Act.put, mA, mB, mC] <;> rfl)), off0, k_t2, k_t4, k_t5, k_s15, k_t6, k_t7, k_s26, k_t8, Z0, Q4s, J7l, J7m, J7n, J6i, J7o, J7p, J9a, J6f, J2c, J2d, J2e, J3h, J2f, J35, J62, J61⟩
  have _f := True.intro
  refine Ln ?_ (z := c4 0) (t := 153)
  intro Q9o W13 J1b hO h_
  have J2c := bn k_t2 J1b
  have J2d := bn k_t4 J1b
  have J2e := bn k_t5 J1b
  have J3h := bn k_s15 J1b
  have J2f := bn k_t6 J1b
  have J35 := bn k_t7 J1b
  have J61 := J2k (Sl.lt Z0) J1b
  have J6f := fbn off0 J1b
  replace k_t2 := k_t2.o hO
  replace k_t4 := k_t4.o hO
  replace k_t5 := k_t5.o hO
  replace k_s15 := k_s15.o hO
  replace k_t6 := k_t6.o hO
  replace k_t7 := k_t7.o hO
  replace Z0 := Sl.off Z0 hO f0
  replace off0 := off0.o hO
  have k_t8 := h_
  clear hO h_ J1b
  refine J2a (fun W => True) (fun W hS => trivial) trivial ?_
  refine J4c rfl ?_
  refine LnS ?_ (z := #[.slice (some ⟨J7k, 0, none⟩) 32 32, .slice (some ⟨J47, 64, none⟩) 32 32, v]) (t := 22) (n := 3) (c := 3) (hr := by exact J0h [.slice (some ⟨J7k, 0, none⟩) 32 32, .slice (some ⟨J47, 64, none⟩) 32 32, v] rfl rfl (vsc (rfl) (vsc (rfl) (vsc ((V3 Z0).1) vs0))) Tryz.underlying113 (by kernel_rfl) (by kernel_rfl) rfl (by decide) (by decide))
  intro Z9g W14 J46 hO h_
  have J7l := bn k_t2 J46
  have J7m := bn k_t4 J46
  have J7n := bn k_t5 J46
  have J6i := bn k_s15 J46
  have J7o := bn k_t6 J46
  have J7p := bn k_t7 J46
  have nq_t8_s26 := bn k_t8 J46
  have J9a := J2k (Sl.lt Z0) J46
  have Q4s := fbn off0 J46
  replace k_t2 := k_t2.o hO
  replace k_t4 := k_t4.o hO
  replace k_t5 := k_t5.o hO
  replace k_s15 := k_s15.o hO
  replace k_t6 := k_t6.o hO
  replace k_t7 := k_t7.o hO
  replace k_t8 := k_t8.o hO
  replace Z0 := Sl.off Z0 hO f0
  replace off0 := off0.o hO
  have k_s26 := h_
  clear hO h_ J46
  refine J2a (fun W => True) (fun W hS => trivial) trivial ?_
  refine J4c rfl ?_
  refine Lr ?_ (J6h (kn := kn) HU6.out [lb 32 U5, lb 32 U3, L] (some ⟨Z9g, 0, none⟩) 3 (by simp only [List.flatten_cons, List.flatten_nil, List.append_nil, List.nil_append, List.append_assoc, List.cons_append]) (by first | omega | (simp only [List.length_append, List.length_cons, List.length_nil, Q2]; omega)) (by simp) W14 (J10 k_s26 (pvc (J03 (V := U5) (n := 32) (off := 0) k_t7 ap0 (by decide) (by decide)) (pvc (J03 (V := U3) (n := 32) (off := 64) k_t5 Y94 (by decide) (by decide)) (pvc Z0 pv0)))) (GA_ext hG off0.ext))
  intro W15 hO
  replace k_t2 := k_t2.o hO
  replace k_t4 := k_t4.o hO
  replace k_t5 := k_t5.o hO
  replace k_s15 := k_s15.o hO
  replace k_t6 := k_t6.o hO
  replace k_t7 := k_t7.o hO
  replace k_t8 := k_t8.o hO
  replace k_s26 := k_s26.o hO
  replace Z0 := Sl.off Z0 hO f0
  replace off0 := off0.o hO
  clear hO
  refine J2a (fun W => True) (fun W hS => trivial) trivial ?_
  refine J4c rfl ?_
  refine Lp ?_ k_t8 (cells := c4 U6)
  intro W16 hO h_
  replace k_t8 : Blk W16 Q9o (c4 U6) 153 := h_
  clear h_
  replace k_t2 := k_t2.p hO J2c
  replace k_t4 := k_t4.p hO J2d
  replace k_t5 := k_t5.p hO J2e
  replace k_s15 := k_s15.p hO J3h
  replace k_t6 := k_t6.p hO J2f
  replace k_t7 := k_t7.p hO J35
  replace k_s26 := k_s26.p hO nq_t8_s26.symm
  replace Z0 := Sl.off Z0 hO (f1 J61)
  replace off0 := off0.p hO J6f
  clear hO
  refine J2a (fun W => True) (fun W hS => trivial) trivial ?_
  refine Q3y ?_
  exact ⟨Z9g, Q9o, (by (simp only [Q5j, List.foldl_cons, List.foldl_nil, Act.put, mA, mB, mC] <;> rfl)), off0, k_t2, k_t4, k_t5, k_s15, k_t6, k_t7, k_s26, k_t8, Z0, Q4s, J7l, J7m, J7n, J6i, J7o, J7p, J9a, J6f, J2c, J2d, J2e, J3h, J2f, J35, nq_t8_s26.symm, J61⟩
 rintro _ W17 ⟨j_s26, j_t8, rfl, off0, k_t2, k_t4, k_t5, k_s15, k_t6, k_t7, k_s26, k_t8, Z0, Q4s, J7l, J7m, J7n, J6i, J7o, J7p, J9a, J6f, J2c, J2d, J2e, J3h, J2f, J35, J62, J61⟩
 simp only [Q5j, List.foldl_cons, List.foldl_nil]
 (try simp only [Act.put, mA, mB, mC])
 go_upto_region 5 with fail
 refine Rx1 8 9 (z := J0 .u8 32 (Q5 0)) (t := 23) ?_
 refine Xl ?_ k_t6
 refine Xl ?_ k_t8
 refine Xv ?_
 refine Xw ?_ (v := .slice (some ⟨J47, 0, none⟩) 32 32)
 refine Xf ?_ (fun W hW => Y64 HU7.out (n := 32) (off := 0) (J1 k_t5 hW) V3h (by decide) bU1 (GA_ext (GA_ext hG off0.ext) hW).2.2.1)
 refine Xf ?_ (fun W hW => Y97 HU8.out (Nat.lt_trans lU6 J36) (Nat.lt_trans lU7 J36) W (GA_ext (GA_ext hG off0.ext) hW).2.2.1)
 refine Xf ?_ (fun W hW => Y98 HU9.out (Nat.lt_trans lU4 J36) (Nat.lt_trans lU8 J36) W (GA_ext (GA_ext hG off0.ext) hW).2.2.1)
 refine Xf ?_ (fun W hW => Q1h lU9 W (GA_ext (GA_ext hG off0.ext) hW).2.2.1)
 refine XN ?_
 intro Z3p W18 J77 hE h_t9
 have hO := Z7 hE
 have Q4i := bn k_t4 J77
 have Z9h := bn k_t7 J77
 have Q9p := fbn off0 J77
 replace k_t4 := k_t4.o hO
 replace k_t7 := k_t7.o hO
 replace off0 := off0.o hO
 clear hO hE J77
 have k_t9 : Blk W18 Z3p (J0 .u8 32 (Q5 0)) 23 := h_t9
 clear h_t9
 refine LpA ?_ k_t9 (k := .u8) (n := 32) (f := Q5 U9)
 intro W19 hO h_
 replace k_t9 : Blk W19 Z3p (J0 .u8 32 (Q5 U9)) 23 := h_
 clear h_
 replace k_t4 := k_t4.p hO Q4i
 replace k_t7 := k_t7.p hO Z9h
 replace off0 := off0.p hO Q9p
 clear hO
 refine LN ?_
 go_upto_region 6 with fail
 refine J88 (.q 1 (.q 3 (.e 0 (.e 2 (.e 4 (.q 5 (.q 6 (.e 7 .z)))))))) (fun W => True) (by kernel_rfl) (by kernel_rfl) ?_
 intro W20 hO
 replace k_t4 := k_t4.o hO
 replace k_t7 := k_t7.o hO
 replace k_t9 := k_t9.o hO
 replace off0 := off0.o hO
 clear hO
 refine ⟨trivial, ?_⟩
 refine J8n (v := .slice (some ⟨J7k, 0, none⟩) 32 32) rfl (by rfl) (fun W hS => by first | rfl | (go_simp; done) | (go_simp; with_reducible rfl)) ?_
 (try simp only [Act.put, mA, mB, mC])
 refine J8n (v := .slice (some ⟨Z3p, 0, none⟩) 32 32) rfl (by rfl) (fun W hS => by first | rfl | (go_simp; done) | (go_simp; with_reducible rfl)) ?_
 (try simp only [Act.put, mA, mB, mC])
 refine J4c rfl ?_
 refine LnS ?_ (z := #[]) (t := 5) (n := 0) (c := 0)
 intro Q88 W21 Z3q hO h_
 have Q6a : Value.ownBlock (.slice (some ⟨Q88, 0, none⟩) 0 0) ≠ some Q06 := obn k_t4 Z3q
 have Z5p : Value.ownBlock (.slice (some ⟨Q88, 0, none⟩) 0 0) ≠ some Z3p := obn k_t9 Z3q
 have Z9i : Fr (Value.ownBlock (.slice (some ⟨Q88, 0, none⟩) 0 0)) w.heap.size [] := frn off0 Z3q
 replace k_t4 := k_t4.o hO
 replace k_t7 := k_t7.o hO
 replace k_t9 := k_t9.o hO
 replace off0 := off0.o hO
 have Y9d : Own W21 (.slice (some ⟨Q88, 0, none⟩) 0 0) [] := J3v h_ (by rfl) (by show 0 ≤ maxLen; decide)
 clear hO h_ Z3q
 refine J2a (fun W => True) (fun W hS => trivial) trivial ?_
 refine J4c rfl ?_
 refine J0q (xs := []) (ys := (lb 32 U5)) (by rfl) rfl rfl rfl Y9d (J03 (V := U5) (n := 32) (off := 0) k_t7 ap0 (by decide) (by decide)) (by first | omega | (simp only [List.length_append, List.length_cons, List.length_nil, Q2]; omega)) ?_
 (try simp only [Act.put, mA, mB, mC])
 intro V5s W22 Q89 hO Q0p nil_a38
 clear nil_a38
 have Q6b := J4b Q0p Q6a (Q7 k_t4)
 have Z1i := J5l Q0p Z9i off0.size
 replace k_t4 := J1h k_t4 hO (nmo Q6a)
 replace k_t9 := J1h k_t9 hO (nmo Z5p)
 replace off0 := off0.step hO (io Z9i)
 clear hO Q0p
 refine J2a (fun W => True) (fun W hS => trivial) trivial ?_
 refine J4c rfl ?_
 refine J0q (xs := ([] ++ (lb 32 U5))) (ys := (lb 32 U9)) (by rfl) rfl rfl rfl Q89 (J03 (V := U9) (n := 32) (off := 0) k_t9 ap0 (by decide) (by decide)) (by first | omega | (simp only [List.length_append, List.length_cons, List.length_nil, Q2]; omega)) ?_
 (try simp only [Act.put, mA, mB, mC])
 intro Z1j W23 Q4t hO Z9j nil_a40
 clear nil_a40
 have Z5q := J4b Z9j Q6b (Q7 k_t4)
 replace k_t4 := J1h k_t4 hO (nmo Q6b)
 replace off0 := off0.step hO (io Z1i)
 clear hO Z9j
 refine J2a (fun W => (Own W Z1j (([] ++ (lb 32 U5)) ++ (lb 32 U9)))) (fun W hS => trivial) Q4t ?_
 have ln_ : (([] ++ (lb 32 U5)) ++ (lb 32 U9)).length = 64 := by simp only [List.length_append, Q2, List.length_nil]
 obtain ⟨gz, cz, curz, ez, -, -⟩ := Q9w Q4t (by rw [ln_]; decide)
 rw [ln_] at ez
 refine J8n (v := .pointer (some ⟨gz, 0, none⟩)) rfl (by rfl) (fun W hS => by exact (Y3n (n := 64) rfl (by show Z1j = _; exact ez) Tryz.underlying45)) ?_
 (try simp only [Act.put, mA, mB, mC])
 refine J8n (v := .agg (J0 .u8 64 (Q5 (U5 + 2 ^ 256 * U9)))) rfl (by rfl) (fun W hS => by exact (J0o (vs := (J0 .u8 64 (Q5 (U5 + 2 ^ 256 * U9))).toList) rfl rfl (Y9a (hS) ez ln_ (by decide) (by rw [List.nil_append]; exact Y3o bU5)) (by kernel_rfl) (by rw [Array.length_toList, J2]; kernel_rfl))) ?_
 (try simp only [Act.put, mA, mB, mC])
 refine J4c rfl ?_
 refine LpA ?_ k_t4 (k := .u8) (n := 64) (f := Q5 (U5 + 2 ^ 256 * U9))
 intro W24 hO h_
 replace k_t4 : Blk W24 Q06 (J0 .u8 64 (Q5 (U5 + 2 ^ 256 * U9))) 45 := h_
 clear h_
 replace Q4t := Own.off Q4t hO (f1 Z5q)
 replace off0 := off0.p hO J4r
 clear hO
 refine J2a (fun W => (Own W Z1j (([] ++ (lb 32 U5)) ++ (lb 32 U9)))) (fun W hS => hS) Q4t ?_
 refine Q3y ?_
 go_wp2
 rw [show J0 .u8 64 (Q5 (U5 + 2 ^ 256 * U9)) = J0 .u8 64 (Q5 (sig S L)) by rw [HU9.out, HU8.out, HU7.out, HU6.out, HU5.out, HU4.out, HU3.out, HU2.out, HU1.out]; rfl] at k_t4
 exact bodyPost_ret (Y0 rfl rfl k_t4 (by kernel_rfl) (by rw [J2]; kernel_rfl)) rfl ⟨rfl, off0.ext⟩
end Go.Proofs.YtejkmhgkkibafaaGreatDoor.S8
