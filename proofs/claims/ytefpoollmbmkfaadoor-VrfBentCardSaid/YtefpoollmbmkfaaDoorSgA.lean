/- sign: number, Spread, Sign. Conditions: the cells of the variables hold their numbers. -/
import Derived.Test.YtefpoollmbmkfaaDoorSx
import Derived.Test.YtefpoollmbmkfaaDoorShD
import Derived.Test.YtefpoollmbmkfaaDoorEdF
import Derived.Test.YtefpoollmbmkfaaDoorEdD
import Derived.Test.YtefpoollmbmkfaaDoorNb
import Derived.Test.YtefpoollmbmkfaaDoorGd
set_option linter.unusedSimpArgs false
set_option linter.unusedVariables false
namespace Go.Proofs.YtefpoollmbmkfaaDoor
set_option maxHeartbeats 1000000
set_option maxRecDepth 100000
open Go.RowKit
attribute [local irreducible] wpList
variable {kn : Kn}
open Sc (LL J21)
def GA (kn : Kn) (w : World) : Prop := GE kn w ∧ GS w ∧ Sc.GL w ∧ (kn.r → GR w)
theorem Y9k {w W : World} (h : Sc.GL w) (k : Ext w W) : Sc.GL W := ⟨J75 h.1 k, J75 h.2.1 k, J75 h.2.2.1 k, J75 h.2.2.2.1 k, Nat.lt_of_lt_of_le h.2.2.2.2 k.size⟩
theorem Q7 {w W : World} (h : GA kn w) (k : Ext w W) : GA kn W := ⟨J7 h.1 k, Q8x h.2.1 k, Y9k h.2.2.1 k, fun x => J59 (h.2.2.2 x) k⟩
theorem J0j {w : World} {b off n c V : Nat} {cs : Array Value} {t : TypeId} (h : Blk w b cs t) (hc : ∀ i v, (J1 .u8 n (Q6 V))[i]? = some v → cs[off + i]? = some v) (hn : n ≤ c) (hm : c ≤ maxLen) : Sl w (.slice (some ⟨b, off, none⟩) n c) (lb n V) :=
  Y91 h (J8 n V).symm hn hm fun j x hj => by
    have hj2 : j < n := by have := (List.getElem?_eq_some_iff.1 hj).1; rwa [J8] at this
    rw [Q8p hj2] at hj
    have := Option.some.inj hj
    subst this
    rw [Q5q]
    exact hc j _ (J6 _ _ _ _ hj2)
theorem ap0 {a : Array Value} : ∀ i v, a[i]? = some v → a[0 + i]? = some v := fun i v h => by rw [Nat.zero_add]; exact h
def s3 (N D P : Nat) : Array Value := J1 .u8 32 (Q6 N) ++ J1 .u8 32 (Q6 D) ++ J1 .u8 32 (Q6 P)
section
variable {N D P : Nat}
theorem Y9l : ∀ i v, (J1 .u8 32 (Q6 N))[i]? = some v → (s3 N D P)[0 + i]? = some v := fun i v h => by rw [Nat.zero_add]; exact J5h (J5h h)
theorem Y9m : ∀ i v, (J1 .u8 32 (Q6 D))[i]? = some v → (s3 N D P)[32 + i]? = some v := fun i v h => J5h (Q0x (Q1 _ _ _) h)
theorem Y9n : ∀ i v, (J1 .u8 32 (Q6 P))[i]? = some v → (s3 N D P)[64 + i]? = some v := fun i v h => Q0x (by rw [Array.size_append, Q1, Q1]) h
theorem J29 : (s3 N D P).size = 96 := by unfold s3; rw [Array.size_append, Array.size_append, Q1, Q1, Q1]
theorem Q93 : (s3 N D P).all (·.oneCell') = true := by unfold s3; rw [Array.all_append, Array.all_append, Y7, Y7, Y7]; rfl
end
theorem Y0r (a : List Value) : ∀ (vs b : List Value), b.length = vs.length → spl (a ++ b).toArray a.length vs = (a ++ vs).toArray
  | [], b, h => by rw [List.eq_nil_of_length_eq_zero h]; rfl
  | v :: vs, [], h => by simp at h
  | v :: vs, x :: b, h => by
    show spl ((a ++ x :: b).toArray.setIfInBounds a.length v) (a.length + 1) vs = _
    rw [List.setIfInBounds_toArray, List.set_append_right _ _ (Nat.le_refl _), Nat.sub_self, List.set_cons_zero]
    have := Y0r (a ++ [v]) vs b (by simpa using h)
    simpa using this
theorem Y9o (N D P Q : Nat) : spl (s3 N D Q) 64 (J1 .u8 32 (Q6 P)).toList = s3 N D P := by
  have h := Y0r (J7b .u8 32 (Q6 N) ++ J7b .u8 32 (Q6 D)) (J7b .u8 32 (Q6 P)) (J7b .u8 32 (Q6 Q)) (by rw [J7g, J7g])
  rw [List.length_append, J7g, J7g] at h
  have e : ∀ X, s3 N D X = (J7b .u8 32 (Q6 N) ++ J7b .u8 32 (Q6 D) ++ J7b .u8 32 (Q6 X)).toArray := fun X => by
    unfold s3; apply Array.ext'; simp only [Array.toList_append, J5n]
  rw [e, e, J5n]; exact h
theorem Y9p {P : Program} {ops : Array Oper} {Q : Exit → Act → World → Prop} {w : World} {l : List Oper} {o : Oper} {a a' : Act} {ty t : TypeId} {x y : Operand} {b N D R V : Nat} (h : ∀ W, Off [b] w W → Blk W b (s3 N D V) t → wpList P ops Q l a' W) (hB : Blk w b (s3 N D R) t)
    (hw : Region.wanted o (yielded ops a.tmps) = true := by exact rfl) (ho : o.op = .store ty x y := by exact rfl) (hx : a.eval x = .pointer (some ⟨b, 64, none⟩) := by exact rfl) (hy : a.eval y = .agg (J1 .u8 32 (Q6 V)) := by exact rfl)
    (hi : (P.info? ty).map (·.size) = some 32 := by kernel_rfl) (hp : a.put o.dst undef = a' := by (try simp only [Act.put, mA, mB, mC]); exact rfl) : wpList P ops Q (o :: l) a w := by
  subst hp
  refine Z47 (v := .agg (J1 .u8 32 (Q6 V))) hw ho hx hy hB (by show 64 + (J1 .u8 32 (Q6 V)).size ≤ _; rw [Q1, J29]; decide) (by show _ = some (J1 .u8 32 (Q6 V)).size; rw [Q1]; exact hi) (Y7 _ _ _) fun W h1 h2 => h W h1 ?_
  have e : spl (s3 N D R) 64 (Value.agg (J1 .u8 32 (Q6 V))).cells.toList = s3 N D V := Y9o N D V R
  rw [e] at h2
  exact h2
theorem J8z {H : Nat} {F : List UInt8} (hH : H = hs F) (ps : List (List UInt8)) (A : Option Addr) (c : Nat) (hF : ps.flatten = F) (hlen : F.length ≤ 70368744177664) (hpn : ps.length ≤ 9223372036854775000) (w : World) (hps : ∀ i l, ps[i]? = some l → ∃ ad u, A = some ad ∧ w.cell? (ad.add i) = some u ∧ Sl w u l) (hG : GS w) :
    Calls Tryd.prog 32 #[.slice A ps.length c] w fun e w' => Ret (.agg (J1 .u8 64 (Q6 H))) w w' e := by
  rw [hH, ← V3b]; exact V3c ps A c F hF hlen hpn w hps hG
theorem Y0s {X : Nat} {w : World} {b off n c V : Nat} {cs : Array Value} {t : TypeId} (hX : X = V % LL) (hB : Blk w b cs t) (hc : ∀ i v, (J1 .u8 n (Q6 V))[i]? = some v → cs[off + i]? = some v) (hn : n ≤ 700) (hV : V < 2 ^ (8 * n)) (hG : Sc.GL w) :
    Calls Tryd.prog 34 #[.slice (some ⟨b, off, none⟩) n c] w fun e w' => Ret (L4 X) w w' e := by
  have h := Sc.of_c (Q6 V) (J4p V) b off n c w hG hn (fun j hj => by rw [Q8 hB]; exact hc j _ (J6 _ _ _ _ hj)) (J5 hB)
  rw [J4d, Nat.mod_eq_of_lt hV, ← hX] at h
  exact h
theorem Q29 {V : Nat} (hV : V < LL) (w : World) (hG : Sc.GL w) : Calls Tryd.prog 33 #[L4 V] w fun e w' => Ret (.agg (J1 .u8 32 (Q6 V))) w w' e := by
  have h := Sc.bytes_c V (Nat.lt_trans hV J2w) w hG
  rw [Nat.mod_eq_of_lt hV] at h
  exact h
theorem Y9q {X A B : Nat} (hX : X = A * B % LL) (hA : A < Z0) (hB : B < Z0) (w : World) (hG : Sc.GL w) : Calls Tryd.prog 50 #[L4 A, L4 B] w fun e w' => Ret (L4 X) w w' e := hX ▸ Sc.mul_c A B hA hB w hG
theorem Y9r {X A B : Nat} (hX : X = (A + B) % LL) (hA : A < Z0) (hB : B < Z0) (w : World) (hG : Sc.GL w) : Calls Tryd.prog 49 #[L4 A, L4 B] w fun e w' => Ret (L4 X) w w' e := hX ▸ Sc.add_c A B hA hB w hG
theorem Y0t {X V : Nat} (hX : X = clN V) (w : World) : Calls Tryd.prog 42 #[.agg (J1 .u8 32 (Q6 V))] w fun e w' => Ret (.agg (J1 .u8 32 (Q6 X))) w w' e := by
  have h := Sc.clamp_c (Q6 V) (J4p V) w
  rw [Y58, ← hX] at h
  exact h
theorem J9z {X X1 Y1 Z1 T1 : Nat} {p1 : Pr} (h1 : RW X1 Y1 Z1 T1 p1) (hX : X = enc p1) (w : World) (hG : GE kn w) : Calls Tryd.prog 41 #[.agg (p4 X1 Y1 Z1 T1)] w fun e w' => Ret (.agg (J1 .u8 32 (Q6 X))) w w' e := hX ▸ Y85 h1 w hG
theorem pv0 {w : World} : ∀ (i : Nat) (l : List UInt8), ([] : List (List UInt8))[i]? = some l → ∃ u, ([] : List Value)[i]? = some u ∧ Sl w u l := fun i l h => by simp at h
theorem pvc {w : World} {ps : List (List UInt8)} {vs : List Value} {v : Value} {m : List UInt8} (h : Sl w v m) (k : ∀ (i : Nat) (l : List UInt8), ps[i]? = some l → ∃ u, vs[i]? = some u ∧ Sl w u l) :
    ∀ (i : Nat) (l : List UInt8), (m :: ps)[i]? = some l → ∃ u, (v :: vs)[i]? = some u ∧ Sl w u l
  | 0, l, hi => ⟨v, rfl, by
      have e : m = l := by simpa using hi
      subst e; exact h⟩
  | i + 1, l, hi => k i l (by simpa using hi)
theorem J7i {w : World} {g : Nat} {cs : Array Value} {ps : List (List UInt8)} {t : TypeId} (h : Blk w g cs t) (hv : ∀ (i : Nat) (l : List UInt8), ps[i]? = some l → ∃ u, cs.toList[i]? = some u ∧ Sl w u l) :
    ∀ (i : Nat) (l : List UInt8), ps[i]? = some l → ∃ ad u, some (⟨g, 0, none⟩ : Addr) = some ad ∧ w.cell? (ad.add i) = some u ∧ Sl w u l := fun i l hi => by
  obtain ⟨u, h1, h2⟩ := hv i l hi
  exact ⟨_, u, rfl, by rw [Addr.add_mid, Q8 h, Nat.zero_add]; simpa using h1, h2⟩
theorem Z6p (hd : kn.d) (hb : kn.b) (S : Nat) :
  ∀ w, GA kn w → Calls Tryd.prog 15 #[.agg (J1 .u8 32 (Q6 S))] w fun e w' => Ret (.agg (s3 (kN S) (kD S) (kP S))) w w' e := by
 obtain ⟨U1, hU1⟩ := V2 (hs ((lb 32 S)))
 have HU1 := Lib.hid hU1
 clear hU1
 obtain ⟨U2, hU2⟩ := V2 (clN (lo U1))
 have bU2 : U2 < 2 ^ 256 := by rw [hU2]; exact Y0u _
 have HU2 := Lib.hid hU2
 clear hU2
 obtain ⟨x1, y2, z3, t4, r5, c6⟩ := Q8a hb
 obtain ⟨x7, y8, z9, t10, r11, c12⟩ := J63 hd r5.rw (N := U2) bU2
 obtain ⟨U3, hU3⟩ := V2 (enc (pm BP U2))
 have bU3 : U3 < 2 ^ 256 := by rw [hU3]; exact J4r _
 have HU3 := Lib.hid hU3
 clear hU3
 intro w hG
 have off0 : Off [] w w := Off.refl _ _
 go_enter Tryd.func15, Tryd.ntmps15
 go_upto_region 0 with fail
 refine wp_region_lit ?_
 refine Ln ?_ (z := J1 .u8 32 (Q6 S)) (t := 22)
 intro J1a W1 J2n hO h_
 replace off0 := off0.o hO
 have k_t1 := h_
 clear hO h_ J2n
 refine Ln ?_ (z := s3 0 0 0) (t := 25)
 intro J2q W2 U0 hO h_
 have J01 := fbn off0 U0
 replace k_t1 := k_t1.o hO
 replace off0 := off0.o hO
 have k_t2 := h_
 clear hO h_ U0
 refine J0 ?_
 go_upto_region 1 with fail
 refine wp_region_lit ?_
 refine Lw ?_ (v := .slice (some ⟨J1a, 0, none⟩) 32 32) (hv := by first | rfl | (go_simp; done) | (go_simp; with_reducible rfl))
 refine LnS ?_ (z := #[.slice (some ⟨J1a, 0, none⟩) 32 32]) (t := 23) (n := 1) (c := 1) (hr := by exact J43 [.slice (some ⟨J1a, 0, none⟩) 32 32] rfl rfl (vsc (rfl) vs0) Tryd.underlying112 (by kernel_rfl) (by kernel_rfl) rfl (by decide) (by decide))
 intro J8n W3 V5l hO h_
 replace k_t1 := k_t1.o hO
 replace k_t2 := k_t2.o hO
 replace off0 := off0.o hO
 have V5m := h_
 clear hO h_ V5l
 refine Lr ?_ (J8z HU1.out [lb 32 S] (some ⟨J8n, 0, none⟩) 1 (by simp only [List.flatten_cons, List.flatten_nil, List.append_nil, List.nil_append, List.append_assoc, List.cons_append]) (by first | omega | (simp only [List.length_append, List.length_cons, List.length_nil, J8]; omega)) (by simp) W3 (J7i V5m (pvc (J0j (V := S) (n := 32) (off := 0) k_t1 ap0 (by decide) (by decide)) pv0)) (Q7 hG off0.ext).2.1)
 intro W4 hO
 replace k_t2 := k_t2.o hO
 replace off0 := off0.o hO
 clear hO
 refine LnA ?_ (z := J1 .u8 64 (Q6 0)) (t := 30) (k := .u8) (n := 64) (f := Q6 U1)
 intro J7m W6 J13 hO h_
 replace k_t2 := k_t2.o hO
 replace off0 := off0.o hO
 have k_t3 := h_
 clear hO h_ J13
 refine J0 ?_
 go_upto_region 2 with fail
 refine Rx1 8 4 (z := s3 0 0 0) (t := 25) ?_
 refine Xw ?_ (v := .slice (some ⟨J7m, 0, none⟩) 32 64)
 refine Xw ?_ (v := .pointer (some ⟨J7m, 0, none⟩))
 refine Xls ?_ (sub := J1 .u8 32 (Q6 (lo U1))) (j := 0) k_t3 Z6q
 refine Xf ?_ (fun W hW => Y0t HU2.out W)
 refine Xw ?_ (v := .slice (some ⟨J7m, 32, none⟩) 32 32)
 refine Xw ?_ (v := .pointer (some ⟨J7m, 32, none⟩))
 refine Xls ?_ (sub := J1 .u8 32 (Q6 (hi U1))) (j := 32) k_t3 V5n
 refine Xw ?_ (v := .agg (s3 U2 (hi U1) 0)) (hv := fun _ _ => by kernel_rfl)
 refine XN ?_
 intro Y9s W7 J10 hE h_t4
 have hO := Z6 hE
 have nq_t2_t4 := bn k_t2 J10
 have J2d := fbn off0 J10
 replace k_t2 := k_t2.o hO
 replace off0 := off0.o hO
 clear hO hE J10
 have k_t4 : Blk W7 Y9s (s3 0 0 0) 25 := h_t4
 clear h_t4
 refine Lp ?_ k_t4 (cells := s3 U2 (hi U1) 0) (hi := by rw [J29]; kernel_rfl) (hs := by first | rw [J29, J29] | rw [J29] | kernel_rfl) (h1 := by exact Q93)
 intro W8 hO h_
 replace k_t4 : Blk W8 Y9s (s3 U2 (hi U1) 0) 25 := h_
 clear h_
 replace k_t2 := k_t2.p hO nq_t2_t4
 replace off0 := off0.p hO J2d
 clear hO
 refine LN ?_
 go_upto_region 3 with fail
 refine Rx 6 ?_
 refine Xf ?_ (fun W hW => c6 W (Q7 (Q7 hG off0.ext) hW).1)
 refine Xv ?_
 refine Xls ?_ (sub := J1 .u8 32 (Q6 U2)) (j := 0) k_t4 Y9l
 refine Xf ?_ (fun W hW => c12 W (Q7 (Q7 hG off0.ext) hW).1)
 refine Xf ?_ (fun W hW => J9z r11.rw HU3.out W (Q7 (Q7 hG off0.ext) hW).1)
 refine Xv ?_
 refine Q3 fun W9 hE => ?_
 have hO := Z6 hE
 replace k_t2 := k_t2.o hO
 replace k_t4 := k_t4.o hO
 replace off0 := off0.o hO
 clear hO hE
 refine Y9p ?_ k_t4 (V := U3)
 intro W10 hO h_
 replace k_t4 : Blk W10 Y9s (s3 U2 (hi U1) U3) 25 := h_
 clear h_
 replace k_t2 := k_t2.p hO nq_t2_t4
 replace off0 := off0.p hO J2d
 clear hO
 refine LN ?_
 go_upto_region 4 with fail
 refine wp_region_lit ?_
 refine L0 ?_ k_t4 (hi := by rw [J29]; kernel_rfl)
 refine Lp ?_ k_t2 (cells := s3 U2 (hi U1) U3) (hi := by rw [J29]; kernel_rfl) (hs := by first | rw [J29, J29] | rw [J29] | kernel_rfl) (h1 := by exact Q93)
 intro W11 hO h_
 replace k_t2 : Blk W11 J2q (s3 U2 (hi U1) U3) 25 := h_
 clear h_
 replace off0 := off0.p hO J01
 clear hO
 refine J0 ?_
 go_wp2
 rw [show s3 U2 (hi U1) U3 = s3 (kN S) (kD S) (kP S) by rw [HU3.out, HU2.out, HU1.out]; rfl] at k_t2
 exact bodyPost_ret (K6 rfl rfl k_t2 (by kernel_rfl) (by rw [J29]; kernel_rfl)) rfl ⟨rfl, off0.ext⟩
end Go.Proofs.YtefpoollmbmkfaaDoor
