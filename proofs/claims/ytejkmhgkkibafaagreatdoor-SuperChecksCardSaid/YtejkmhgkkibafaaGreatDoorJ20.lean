/- sign: number, Spread, Sign. Conditions: the cells of the variables hold their numbers. sign: Sign. Conditions: the cells of the variables hold their numbers. -/
import Derived.Test.YtejkmhgkkibafaaGreatDoorJ6
import Derived.Test.YtejkmhgkkibafaaGreatDoorJ3
import Derived.Test.YtejkmhgkkibafaaGreatDoorJ8
import Derived.Test.YtejkmhgkkibafaaGreatDoorJ18
import Derived.Test.YtejkmhgkkibafaaGreatDoorJ9
import Derived.Test.YtejkmhgkkibafaaGreatDoorJ19
import Derived.Test.YtejkmhgkkibafaaGreatDoorJ17
open Go.RowKit
set_option maxRecDepth 100000
set_option linter.unusedSimpArgs false
set_option linter.unusedVariables false
namespace Go.Proofs.YtejkmhgkkibafaaGreatDoor.S8
section
set_option maxHeartbeats 1000000
attribute [local irreducible] wpList U0 wpX
variable {kn : Kn}
open Sc (LL J3j)
def GA (kn : Kn) (w : World) : Prop := GE kn w ∧ GS w ∧ Sc.GL w ∧ (kn.r → GR w)
theorem Y7k {w W : World} (h : Sc.GL w) (k : Ext w W) : Sc.GL W := ⟨J24 h.1 k, J24 h.2.1 k, J24 h.2.2.1 k, J24 h.2.2.2.1 k, Nat.lt_of_lt_of_le h.2.2.2.2 k.size⟩
theorem GA_ext {w W : World} (h : GA kn w) (k : Ext w W) : GA kn W := ⟨Q8 h.1 k, Q4q h.2.1 k, Y7k h.2.2.1 k, fun x => GR_ext (h.2.2.2 x) k⟩
def s3 (N D P : Nat) : Array Value := J0 .u8 32 (Q3 N) ++ J0 .u8 32 (Q3 D) ++ J0 .u8 32 (Q3 P)
section
variable {N D P : Nat}
theorem V0y : ∀ i v, (J0 .u8 32 (Q3 N))[i]? = some v → (s3 N D P)[0 + i]? = some v := fun i v h => by rw [Nat.zero_add]; exact J3o (J3o h)
theorem V0z : ∀ i v, (J0 .u8 32 (Q3 D))[i]? = some v → (s3 N D P)[32 + i]? = some v := fun i v h => J3o (J6l (J1 _ _ _) h)
theorem Z7b : ∀ i v, (J0 .u8 32 (Q3 P))[i]? = some v → (s3 N D P)[64 + i]? = some v := fun i v h => J6l (by rw [Array.size_append, J1, J1]) h
theorem J20 : (s3 N D P).size = 96 := by unfold s3; rw [Array.size_append, Array.size_append, J1, J1, J1]
theorem Q9c : (s3 N D P).all (·.oneCell') = true := by unfold s3; rw [Array.all_append, Array.all_append, Z9, Z9, Z9]; rfl
end
theorem Z7c (a : List Value) : ∀ (vs b : List Value), b.length = vs.length → spl (a ++ b).toArray a.length vs = (a ++ vs).toArray
 | [], b, h => by rw [List.eq_nil_of_length_eq_zero h]; rfl
 | v :: vs, [], h => by simp at h
 | v :: vs, x :: b, h => by
  show spl ((a ++ x :: b).toArray.setIfInBounds a.length v) (a.length + 1) vs = _
  rw [List.setIfInBounds_toArray, List.set_append_right _ _ (Nat.le_refl _), Nat.sub_self, List.set_cons_zero]
  have := Z7c (a ++ [v]) vs b (by simpa using h)
  simpa using this
theorem Y7l (N D P Q : Nat) : spl (s3 N D Q) 64 (J0 .u8 32 (Q3 P)).toList = s3 N D P := by
 have h := Z7c (J50 .u8 32 (Q3 N) ++ J50 .u8 32 (Q3 D)) (J50 .u8 32 (Q3 P)) (J50 .u8 32 (Q3 Q)) (by rw [J56, J56])
 rw [List.length_append, J56, J56] at h
 have e : ∀ X, s3 N D X = (J50 .u8 32 (Q3 N) ++ J50 .u8 32 (Q3 D) ++ J50 .u8 32 (Q3 X)).toArray := fun X => by
  unfold s3; apply Array.ext'; simp only [Array.toList_append, J26]
 rw [e, e, J26]; exact h
theorem Z7d {H : Nat} {F : List UInt8} (hH : H = hs F) (ps : List (List UInt8)) (A : Option Addr) (c : Nat) (hF : ps.flatten = F) (hlen : F.length ≤ 70368744177664) (hpn : ps.length ≤ 9223372036854775000) (w : World) (hps : ∀ i l, ps[i]? = some l → ∃ ad u, A = some ad ∧ w.cell? (ad.add i) = some u ∧ Sl w u l) (hG : GS w) :
  Calls Tryz.prog 125 #[.slice A ps.length c] w fun e w' => K7 (.agg (J0 .u8 64 (Q3 H))) w w' e := by
 rw [hH, ← V10]; exact V11 ps A c F hF hlen hpn w hps hG
theorem Y5a {X : Nat} {w : World} {b off n c V : Nat} {cs : Array Value} {t : TypeId} (hX : X = V % LL) (hB : Blk w b cs t) (hc : ∀ i v, (J0 .u8 n (Q3 V))[i]? = some v → cs[off + i]? = some v) (hn : n ≤ 700) (hV : V < 2 ^ (8 * n)) (hG : Sc.GL w) :
  Calls Tryz.prog 95 #[.slice (some ⟨b, off, none⟩) n c] w fun e w' => K7 (L4 X) w w' e := by
 have h := Sc.of_c (Q3 V) (J2y V) b off n c w hG hn (fun j hj => by rw [J7 hB]; exact hc j _ (J3 _ _ _ _ hj)) (Q2 hB)
 rw [J44, Nat.mod_eq_of_lt hV, ← hX] at h
 exact h
theorem J9l {V : Nat} (hV : V < LL) (w : World) (hG : Sc.GL w) : Calls Tryz.prog 91 #[L4 V] w fun e w' => K7 (.agg (J0 .u8 32 (Q3 V))) w w' e := by
 have h := Sc.bytes_c V (Nat.lt_trans hV J1i) w hG
 rw [Nat.mod_eq_of_lt hV] at h
 exact h
theorem Y7m {X A B : Nat} (hX : X = A * B % LL) (hA : A < Q5) (hB : B < Q5) (w : World) (hG : Sc.GL w) : Calls Tryz.prog 94 #[L4 A, L4 B] w fun e w' => K7 (L4 X) w w' e := hX ▸ Sc.mul_c A B hA hB w hG
theorem Y7n {X A B : Nat} (hX : X = (A + B) % LL) (hA : A < Q5) (hB : B < Q5) (w : World) (hG : Sc.GL w) : Calls Tryz.prog 93 #[L4 A, L4 B] w fun e w' => K7 (L4 X) w w' e := hX ▸ Sc.add_c A B hA hB w hG
theorem Z7e {X V : Nat} (hX : X = clN V) (w : World) : Calls Tryz.prog 126 #[.agg (J0 .u8 32 (Q3 V))] w fun e w' => K7 (.agg (J0 .u8 32 (Q3 X))) w w' e := by
 have h := Sc.clamp_c (Q3 V) (J2y V) w
 rw [Y1q, ← hX] at h
 exact h
theorem Q5w {X X1 Y1 Z1 T1 : Nat} {p1 : Pr} (h1 : RW X1 Y1 Z1 T1 p1) (hX : X = enc p1) (w : World) (hG : GE kn w) : Calls Tryz.prog 92 #[.agg (p4 X1 Y1 Z1 T1)] w fun e w' => K7 (.agg (J0 .u8 32 (Q3 X))) w w' e := hX ▸ Y6n h1 w hG

theorem J4u {X : Nat} {F : List UInt8} (hX : X = hs F % LL) (ps : List (List UInt8)) (A : Option Addr) (c : Nat) (hF : ps.flatten = F) (hlen : F.length ≤ 70368744177664) (hpn : ps.length ≤ 9223372036854775000) (w : World) (hps : ∀ i l, ps[i]? = some l → ∃ ad u, A = some ad ∧ w.cell? (ad.add i) = some u ∧ Sl w u l) (hG : GA kn w) :
  Calls Tryz.prog 88 #[.slice A ps.length c] w fun e w' => K7 (L4 X) w w' e := by
 have N := Lib.hid hps
 clear hps
 rw [hX]
 clear hX
 have hS := SH.nil [] w
 go_enter Tryz.func88, Tryz.ntmps88
 go_upto_region 0 with fail
 refine RL hS ?_
 clear hS
 refine MN (z := c4 0) (t := 153) ?_
 intro X5
 refine MZ fun W hS => ?_
 go_upto_region 1 with fail
 refine RL hS ?_
 clear hS
 refine MV ?_
 obtain ⟨U1, J⟩ := V3 (hs F)
 have D := Lib.hid J
 clear J
 refine MC (v := .agg (J0 .u8 64 (Q3 U1))) (fun W hS => Z7d D.out ps A c hF hlen hpn W (Z5p hS.off N.out) (GA_ext hG hS.ext).2.1) ?_
 refine MN (z := J0 .u8 64 (Q3 0)) (t := 45) ?_
 intro R
 refine MR 0 ?_ 
 refine MZ fun W hS => ?_
 go_upto_region 2 with fail
 refine RL hS ?_
 clear hS
 refine MW ?_ (v := .slice (some ⟨R, 0, none⟩) 64 64)
 obtain ⟨U2, G⟩ := V3 (U1 % LL)
 have S : U2 < LL := by rw [G]; exact mLL _
 have T : U2 < 2 ^ 256 := Nat.lt_trans S J1i
 have M := Lib.hid G
 clear G
 refine MC (v := .agg (c4 U2)) (fun W hS => Y5a M.out (n := 64) (off := 0) (hS.blk (i := 0) rfl) ap0 (by decide) (by rw [D.out]; exact Q9d _) (GA_ext hG hS.ext).2.2.1) ?_
 refine MR 1 ?_ 
 refine MZ fun W hS => ?_
 go_wp2
 rw [M.out, D.out] at hS
 exact bodyPost_ret (Z6 rfl rfl (hS.blk (i := 1) rfl) (by kernel_rfl) (by kernel_rfl)) rfl ⟨rfl, hS.ext⟩
theorem Z3l (hd : kn.d) (hb : kn.b) (S : Nat) :
  ∀ w, GA kn w → Calls Tryz.prog 77 #[.agg (J0 .u8 32 (Q3 S))] w fun e w' => K7 (.agg (s3 (kN S) (kD S) (kP S))) w w' e := by
 obtain ⟨U1, R⟩ := V3 (hs ((lb 32 S)))
 have X := Lib.hid R
 clear R
 obtain ⟨U2, M⟩ := V3 (clN (lo U1))
 have Z : U2 < 2 ^ 256 := by rw [M]; exact Z7f _
 have U := Lib.hid M
 clear M
 obtain ⟨x1, y2, z3, t4, r5, c6⟩ := Q5f hb
 obtain ⟨x7, y8, z9, α, Y, γ⟩ := J9g hd r5.rw (N := U2) Z
 obtain ⟨U3, G⟩ := V3 (enc (pm BP U2))
 have δ : U3 < 2 ^ 256 := by rw [G]; exact Q02 _
 have T := Lib.hid G
 clear G
 intro w hG
 have hS := SH.nil [] w
 go_enter Tryz.func77, Tryz.ntmps77
 go_upto_region 0 with fail
 refine RL hS ?_
 clear hS
 refine MN (z := J0 .u8 32 (Q3 S)) (t := 23) ?_
 intro J
 refine MN (z := s3 0 0 0) (t := 140) ?_
 intro ε
 refine MZ fun W hS => ?_
 go_upto_region 1 with fail
 refine RL hS ?_
 clear hS
 refine MW ?_ (v := .slice (some ⟨J, 0, none⟩) 32 32)
 refine MB (z := #[.slice (some ⟨J, 0, none⟩) 32 32]) (t := 22) (n := 1) (c := 1) ?_ (hr := fun W hS => J2k [.slice (some ⟨J, 0, none⟩) 32 32] rfl rfl (vsc (K6 (K0 (V := S) (n := 32) (off := 0) (c := 32) (hS.blk (i := 1) rfl) ap0 (by decide) (by decide))).1 vs0) Tryz.underlying113 (by kernel_rfl) (by kernel_rfl) rfl (by decide) (by decide))
 intro β
 refine MC (v := .agg (J0 .u8 64 (Q3 U1))) (fun W hS => Z7d X.out [lb 32 S] (some ⟨β, 0, none⟩) 1 (by simp only [List.flatten_cons, List.flatten_nil, List.append_nil, List.nil_append, List.append_assoc, List.cons_append]) (by first | omega | (simp only [List.length_append, List.length_cons, List.length_nil, J8]; omega)) (by simp) W (J1z (hS.blk (i := 0) rfl) (pvc (K0 (V := S) (n := 32) (off := 0) (c := 32) (hS.blk (i := 2) rfl) ap0 (by decide) (by decide)) pv0)) (GA_ext hG hS.ext).2.1) ?_
 refine MN (z := J0 .u8 64 (Q3 0)) (t := 45) ?_
 intro D
 refine MR 0 ?_ 
 refine MZ fun W hS => ?_
 go_upto_region 2 with fail
 refine RXn 8 [⟨8, 4, s3 0 0 0, 140⟩] hS ?_ (by simp only [List.forall_mem_cons]; exact ⟨⟨_, rfl, rfl, rfl, fun _ _ => by kernel_rfl⟩, fun _ h => by cases h⟩)
 clear hS
 refine MW ?_ (v := .slice (some ⟨D, 0, none⟩) 32 64)
 refine MW ?_ (v := .pointer (some ⟨D, 0, none⟩)) (hv := by intro W; first | rfl | (go_simp; done) | (go_simp; with_reducible rfl))
 refine Ml 0 Q7m ?_
 refine MC (v := .agg (J0 .u8 32 (Q3 U2))) (fun W hS => Z7e U.out W) ?_
 refine MW ?_ (v := .slice (some ⟨D, 32, none⟩) 32 32)
 refine MW ?_ (v := .pointer (some ⟨D, 32, none⟩)) (hv := by intro W; first | rfl | (go_simp; done) | (go_simp; with_reducible rfl))
 refine Ml 0 Y1s ?_
 refine MW ?_ (v := .agg (s3 U2 (hi U1) 0)) (hv := by intro W; kernel_rfl)
 refine MZB fun ζ => ?_
 refine MR 0 ?_ (hz := by rw [J20]; kernel_rfl) (hs := by first | rw [J20, J20] | rw [J20] | kernel_rfl) (h1 := Q9c)
 refine MZn fun W hS => ?_
 go_upto_region 3 with fail
 refine RX 6 hS ?_
 clear hS
 refine MC (v := .agg (p4 x1 y2 z3 t4)) (fun W hS => c6 W (GA_ext hG hS.ext).1) ?_
 refine MV ?_
 refine Ml 0 V0y ?_
 refine MC (v := .agg (p4 x7 y8 z9 α)) (fun W hS => γ W (GA_ext hG hS.ext).1) ?_
 refine MC (v := .agg (J0 .u8 32 (Q3 U3))) (fun W hS => Q5w Y.rw T.out W (GA_ext hG hS.ext).1) ?_
 refine MV ?_
 refine MZt ?_
 refine Mr 0 (off := 64) (Y7l _ _ _ _) ?_ (hs := by rw [J1, J20]; decide)
 refine MZn fun W hS => ?_
 go_upto_region 4 with fail
 refine RL hS ?_
 clear hS
 refine ML 0 ?_ (hs := by rw [J20]; kernel_rfl)
 refine MR 3 ?_ (hz := by rw [J20]; kernel_rfl) (hs := by first | rw [J20, J20] | rw [J20] | kernel_rfl) (h1 := Q9c)
 refine MZ fun W hS => ?_
 go_wp2
 rw [show s3 U2 (hi U1) U3 = s3 (kN S) (kD S) (kP S) by rw [T.out, U.out, X.out]; rfl] at hS
 exact bodyPost_ret (Z6 rfl rfl (hS.blk (i := 3) rfl) (by kernel_rfl) (by rw [J20]; kernel_rfl)) rfl ⟨rfl, hS.ext⟩
end

section
set_option maxHeartbeats 1000000
attribute [local irreducible] wpList U0 wpX
variable {kn : Kn}
open Sc (LL J3j)
theorem spreadN_c (hd : kn.d) (hb : kn.b) {N D P S : Nat} (hN : N = kN S) (hD : D = kD S) (hP : P = kP S) (w : World) (hG : GA kn w) :
  Calls Tryz.prog 77 #[.agg (J0 .u8 32 (Q3 S))] w fun e w' => K7 (.agg (s3 N D P)) w w' e := by
 rw [hN, hD, hP]; exact Z3l hd hb S w hG
theorem Q7n {w : World} {v : Value} {l : List UInt8} (h : Own w v l) (hp : 0 < l.length) : ∃ g c cur, v = .slice (some ⟨g, 0, none⟩) l.length c ∧ Blk w g cur 5 ∧ cur.toList.take l.length = bs8 l := by
 rcases h.2 with ⟨_, h0⟩ | ⟨g, c, cur, hv, _, hh, _, _, _, ht⟩
 ·
  omega
 exact ⟨g, c, cur, hv, hh, by rwa [Nat.mul_one] at ht⟩
theorem Y1t {P : Program} {W : World} {o : Oper} {a : Act} {x : Operand} {arr e : TypeId} {n c : Nat} {ad : Addr} (ho : o.op = .sliceToArrayPointer arr x) (hx : a.eval x = .slice (some ad) n c) (hu : P.underlying arr = some (.array n e)) : (execOp a.eval o).run P W = .ok (.value (.pointer (some ad))) W := by
 simp [execOp, ho, hx, Instr.arrayAt, run_underlying hu, Sem.run_bind]
theorem Y1u {A T : Nat} (hA : A < 2 ^ 256) : lb 32 A ++ lb 32 T = lb 64 (A + 2 ^ 256 * T) := by
 rw [Z7g]
 unfold lo hi
 rw [Nat.add_mul_mod_self_left, Nat.mod_eq_of_lt hA, Nat.add_mul_div_left _ _ (by decide), Nat.div_eq_of_lt hA, Nat.zero_add]
theorem Y7o {W : World} {v : Value} {l : List UInt8} {g c m n V : Nat} (h : Own W v l) (ez : v = .slice (some ⟨g, 0, none⟩) m c) (hn : l.length = n) (hp : 0 < n) (hl : l = lb n V) : ∀ i x, (J0 .u8 n (Q3 V)).toList[i]? = some x → W.cell? ⟨g, 0 + i, none⟩ = some x := fun i x hx => by
 obtain ⟨g', c', D, e', hB, ht⟩ := Q7n h (by omega)
 rw [ez] at e'
 injection e' with e1 _ _
 injection e1 with e1
 injection e1 with e1 _ _
 subst e1
 have hi : i < n := by have := (List.getElem?_eq_some_iff.1 hx).1; rwa [Array.length_toList, J1] at this
 rw [J7 hB, Nat.zero_add, ← Array.getElem?_toList, ← List.getElem?_take_of_lt (l := D.toList) (show i < l.length by rw [hn]; exact hi), ht, hl, J6u, ← J26]
 exact hx
theorem Y7p {w : World} {v : Value} {l : List UInt8} (h : Own w v l) (hl : l.length = 64) : ∃ g c, v = .slice (some ⟨g, 0, none⟩) 64 c := by
 obtain ⟨g, c, D, h1, _, _⟩ := Q7n h (by omega)
 exact ⟨g, c, by rw [← hl]; exact h1⟩
theorem Y7q (hd : kn.d) (hb : kn.b) (S : Nat) (v : Value) (L : List UInt8) (hL : L.length ≤ 1099511627776) :
  ∀ w, GA kn w → Sl w v L → Calls Tryz.prog 52 #[.agg (J0 .u8 32 (Q3 S)), v] w fun e w' => K7 (.agg (J0 .u8 64 (Q3 (sig S L)))) w w' e := by
 obtain ⟨U1, ζ⟩ := V3 (kN S)
 have D6 : U1 < 2 ^ 256 := by rw [ζ]; exact V13 _
 have ρ := Lib.hid ζ
 clear ζ
 obtain ⟨U2, α⟩ := V3 (kD S)
 have G5 : U2 < 2 ^ 256 := by rw [α]; exact V14 _
 have Ω := Lib.hid α
 clear α
 obtain ⟨U3, θ⟩ := V3 (kP S)
 have G0 : U3 < 2 ^ 256 := by rw [θ]; exact kP_lt _
 have Δ := Lib.hid θ
 clear θ
 obtain ⟨U4, γ⟩ := V3 (hs ((lb 32 U2) ++ L) % LL)
 have U : U4 < LL := by rw [γ]; exact mLL _
 have G4 : U4 < 2 ^ 256 := Nat.lt_trans U J1i
 have ξ := Lib.hid γ
 clear γ
 obtain ⟨x1, y2, z3, t4, r5, c6⟩ := Q5f hb
 obtain ⟨x7, y8, z9, Ψ, D1, D3⟩ := J9g hd r5.rw (N := U4) (Nat.lt_trans U J1i)
 obtain ⟨U5, β⟩ := V3 (enc (pm BP U4))
 have D0 : U5 < 2 ^ 256 := by rw [β]; exact Q02 _
 have φ := Lib.hid β
 clear β
 obtain ⟨U6, ε⟩ := V3 (hs ((lb 32 U5) ++ (lb 32 U3) ++ L) % LL)
 have τ : U6 < LL := by rw [ε]; exact mLL _
 have G7 : U6 < 2 ^ 256 := Nat.lt_trans τ J1i
 have T := Lib.hid ε
 clear ε
 obtain ⟨U7, Y⟩ := V3 (U1 % LL)
 have χ : U7 < LL := by rw [Y]; exact mLL _
 have G1 : U7 < 2 ^ 256 := Nat.lt_trans χ J1i
 have μ := Lib.hid Y
 clear Y
 obtain ⟨U8, δ⟩ := V3 (U6 * U7 % LL)
 have κ : U8 < LL := by rw [δ]; exact mLL _
 have D8 : U8 < 2 ^ 256 := Nat.lt_trans κ J1i
 have σ := Lib.hid δ
 clear δ
 obtain ⟨U9, η⟩ := V3 ((U4 + U8) % LL)
 have ψ : U9 < LL := by rw [η]; exact mLL _
 have G3 : U9 < 2 ^ 256 := Nat.lt_trans ψ J1i
 have ω := Lib.hid η
 clear η
 intro w hG hs
 have hS := SH.nil [] w
 go_enter Tryz.func52, Tryz.ntmps52
 go_upto_region 0 with fail
 refine RL hS ?_
 clear hS
 refine MN (z := J0 .u8 32 (Q3 S)) (t := 23) ?_
 intro X5
 refine MN (z := J0 .u8 64 (Q3 0)) (t := 45) ?_
 intro Γ
 refine MZ fun W hS => ?_
 go_upto_region 1 with fail
 refine RL hS ?_
 clear hS
 refine ML 1 ?_
 refine MC (v := .agg (s3 U1 U2 U3)) (fun W hS => spreadN_c hd hb ρ.out Ω.out Δ.out W (GA_ext hG hS.ext)) ?_
 refine MN (z := s3 0 0 0) (t := 140) ?_
 intro D
 refine MR 0 ?_ (hz := by rw [J20]; kernel_rfl) (hs := by first | rw [J20, J20] | rw [J20] | kernel_rfl) (h1 := Q9c)
 refine MZ fun W hS => ?_
 go_upto_region 2 with fail
 refine RL hS ?_
 clear hS
 refine MV ?_
 refine MW ?_ (v := .slice (some ⟨D, 32, none⟩) 32 32)
 refine MV ?_
 refine MB (z := #[.slice (some ⟨D, 32, none⟩) 32 32, v]) (t := 22) (n := 2) (c := 2) ?_ (hr := fun W hS => J2k [.slice (some ⟨D, 32, none⟩) 32 32, v] rfl rfl (vsc (K6 (K0 (V := U2) (n := 32) (off := 32) (c := 32) (hS.blk (i := 0) rfl) V0z (by decide) (by decide))).1 (vsc (K6 (J5j hs hS.ext)).1 vs0)) Tryz.underlying113 (by kernel_rfl) (by kernel_rfl) rfl (by decide) (by decide))
 intro Z
 refine MC (v := .agg (c4 U4)) (fun W hS => J4u (kn := kn) ξ.out [lb 32 U2, L] (some ⟨Z, 0, none⟩) 2 (by simp only [List.flatten_cons, List.flatten_nil, List.append_nil, List.nil_append, List.append_assoc, List.cons_append]) (by first | omega | (simp only [List.length_append, List.length_cons, List.length_nil, J8]; omega)) (by simp) W (J1z (hS.blk (i := 0) rfl) (pvc (K0 (V := U2) (n := 32) (off := 32) (c := 32) (hS.blk (i := 1) rfl) V0z (by decide) (by decide)) (pvc (J5j hs hS.ext) pv0))) (GA_ext hG hS.ext)) ?_
 refine MN (z := c4 0) (t := 153) ?_
 intro Θ
 refine MR 0 ?_ 
 refine MZ fun W hS => ?_
 go_upto_region 3 with fail
 refine RXn 5 [⟨5, 7, J0 .u8 32 (Q3 0), 23⟩] hS ?_ (by simp only [List.forall_mem_cons]; exact ⟨⟨_, rfl, rfl, rfl, fun _ _ => by kernel_rfl⟩, fun _ h => by cases h⟩)
 clear hS
 refine MC (v := .agg (p4 x1 y2 z3 t4)) (fun W hS => c6 W (GA_ext hG hS.ext).1) ?_
 refine ML 0 ?_
 refine MC (v := .agg (J0 .u8 32 (Q3 U4))) (fun W hS => J9l U W (GA_ext hG hS.ext).2.2.1) ?_
 refine MC (v := .agg (p4 x7 y8 z9 Ψ)) (fun W hS => D3 W (GA_ext hG hS.ext).1) ?_
 refine MC (v := .agg (J0 .u8 32 (Q3 U5))) (fun W hS => Q5w D1.rw φ.out W (GA_ext hG hS.ext).1) ?_
 refine MZB fun G => ?_
 refine MR 0 ?_ 
 refine MZn fun W hS => ?_
 go_upto_region 4 with fail
 refine RJ (R := fun a_ w_ => ∃ (M : Nat), ∃ (J : Nat), a_ = { tmps := List.toArray ((.agg (J0 .u8 32 (Q3 S))) :: v :: (.pointer (some ⟨X5, 0, none⟩)) :: undef :: (.pointer (some ⟨Γ, 0, none⟩)) :: (.pointer (some ⟨D, 0, none⟩)) :: (.pointer (some ⟨Θ, 0, none⟩)) :: (.pointer (some ⟨(G 5), 0, none⟩)) :: (.pointer (some ⟨M, 0, none⟩)) :: undef :: (.agg (J0 .u8 32 (Q3 S))) :: (.agg (s3 U1 U2 U3)) :: (.pointer (some ⟨D, 32, none⟩)) :: (.slice (some ⟨D, 32, none⟩) 32 32) :: v :: (.slice (some ⟨Z, 0, none⟩) 2 2) :: (.agg (c4 U4)) :: (.agg (p4 x1 y2 z3 t4)) :: (.agg (c4 U4)) :: (.agg (J0 .u8 32 (Q3 U4))) :: (.agg (p4 x7 y8 z9 Ψ)) :: (.agg (J0 .u8 32 (Q3 U5))) :: (.slice (some ⟨(G 5), 0, none⟩) 32 32) :: (.pointer (some ⟨D, 64, none⟩)) :: (.slice (some ⟨D, 64, none⟩) 32 32) :: v :: (.slice (some ⟨J, 0, none⟩) 3 3) :: (.agg (c4 U6)) :: undef :: undef :: undef :: undef :: undef :: undef :: undef :: undef :: undef :: undef :: undef :: undef :: undef :: undef :: undef :: []), defers := [] } ∧ SH [] w w_ [.b J #[.slice (some ⟨(G 5), 0, none⟩) 32 32, .slice (some ⟨D, 64, none⟩) 32 32, v] 22, .b M (c4 U6) 153, .b Z #[.slice (some ⟨D, 32, none⟩) 32 32, v] 22, .b X5 (J0 .u8 32 (Q3 S)) 23, .b Γ (J0 .u8 64 (Q3 0)) 45, .b D (s3 U1 U2 U3) 140, .b Θ (c4 U4) 153, .b (G 5) (J0 .u8 32 (Q3 U5)) 23]) ?_ ?_
 ·
  refine RTh (.q 0 (.q 1 (.q 2 (.q 3 (.b 4 (.b 5 (.e 6 (.e 7 .z)) 6 (.e 5 (.e 7 .z))) 6 (.e 4 (.e 5 (.e 7 .z)))))))) hS ?_
  clear hS
  refine TW ?_ (v := .slice (some ⟨(G 5), 0, none⟩) 32 32)
  refine TV ?_
  refine TW ?_ (v := .slice (some ⟨D, 64, none⟩) 32 32)
  refine TV ?_
  refine TB (fun _ h => h) ?_ ?_
  ·
   refine MB (z := #[.slice (some ⟨(G 5), 0, none⟩) 32 32, .slice (some ⟨D, 64, none⟩) 32 32, v]) (t := 22) (n := 3) (c := 3) ?_ (hr := fun W hS => J2k [.slice (some ⟨(G 5), 0, none⟩) 32 32, .slice (some ⟨D, 64, none⟩) 32 32, v] rfl rfl (vsc (K6 (K0 (V := U5) (n := 32) (off := 0) (c := 32) (hS.blk (i := 0) rfl) ap0 (by decide) (by decide))).1 (vsc (K6 (K0 (V := U3) (n := 32) (off := 64) (c := 32) (hS.blk (i := 3) rfl) Z7b (by decide) (by decide))).1 (vsc (K6 (J5j hs hS.ext)).1 vs0))) Tryz.underlying113 (by kernel_rfl) (by kernel_rfl) rfl (by decide) (by decide))
   intro X
   refine TNh (fun W hS => hS.pick [1, 2, 3, 4, 5, 6]) ?_
   refine TB (fun _ h => h) ?_ ?_
   ·
    refine MC (v := .agg (c4 U6)) (fun W hS => J4u (kn := kn) T.out [lb 32 U5, lb 32 U3, L] (some ⟨X, 0, none⟩) 3 (by simp only [List.flatten_cons, List.flatten_nil, List.append_nil, List.nil_append, List.append_assoc, List.cons_append]) (by first | omega | (simp only [List.length_append, List.length_cons, List.length_nil, J8]; omega)) (by simp) W (J1z (hS.blk (i := 0) rfl) (pvc (K0 (V := U5) (n := 32) (off := 0) (c := 32) (hS.blk (i := 1) rfl) ap0 (by decide) (by decide)) (pvc (K0 (V := U3) (n := 32) (off := 64) (c := 32) (hS.blk (i := 4) rfl) Z7b (by decide) (by decide)) (pvc (J5j hs hS.ext) pv0)))) (GA_ext hG hS.ext)) ?_
    refine TNh (fun W hS => hS) ?_
    refine TE (fun _ h => h) ?_
    refine MN (z := c4 0) (t := 153) ?_
    intro D7
    refine TNp [1, 2, 3, 4, 5, 6, 7] [0, 1, 2, 3, 4, 5, 6] ?_
    refine TE (fun _ h => h.pick [1, 2, 3, 4, 5, 6, 7]) ?_
    refine MR 0 ?_ 
    refine TNp [1, 2, 3, 4, 5, 6, 7] [0, 1, 2, 3, 4, 5, 6] ?_
    refine TZ (fun _ h => h.pick [1, 2, 3, 4, 5, 6, 7]) fun W hS => ?_
    exact ⟨D7, X, rfl, hS.pick [1, 0, 4, 7, 6, 5, 3, 2]⟩
   refine MN (z := c4 0) (t := 153) ?_
   intro D4
   refine TNp [1, 2, 3, 4, 5, 6, 7] [0, 1, 2, 3, 4, 5, 6] ?_
   refine TE (fun _ h => h.pick [1, 2, 3, 4, 5, 6, 7]) ?_
   refine MC (v := .agg (c4 U6)) (fun W hS => J4u (kn := kn) T.out [lb 32 U5, lb 32 U3, L] (some ⟨X, 0, none⟩) 3 (by simp only [List.flatten_cons, List.flatten_nil, List.append_nil, List.nil_append, List.append_assoc, List.cons_append]) (by first | omega | (simp only [List.length_append, List.length_cons, List.length_nil, J8]; omega)) (by simp) W (J1z (hS.blk (i := 1) rfl) (pvc (K0 (V := U5) (n := 32) (off := 0) (c := 32) (hS.blk (i := 2) rfl) ap0 (by decide) (by decide)) (pvc (K0 (V := U3) (n := 32) (off := 64) (c := 32) (hS.blk (i := 5) rfl) Z7b (by decide) (by decide)) (pvc (J5j hs hS.ext) pv0)))) (GA_ext hG hS.ext)) ?_
   refine TNp [1, 2, 3, 4, 5, 6, 7] [0, 1, 2, 3, 4, 5, 6] ?_
   refine TE (fun _ h => h.pick [1, 2, 3, 4, 5, 6, 7]) ?_
   refine MR 0 ?_ 
   refine TNp [1, 2, 3, 4, 5, 6, 7] [0, 1, 2, 3, 4, 5, 6] ?_
   refine TZ (fun _ h => h.pick [1, 2, 3, 4, 5, 6, 7]) fun W hS => ?_
   exact ⟨D4, X, rfl, hS.pick [1, 0, 4, 7, 6, 5, 3, 2]⟩
  refine MN (z := c4 0) (t := 153) ?_
  intro D2
  refine TNp [1, 2, 3, 4, 5, 6] [0, 1, 2, 3, 4, 5] ?_
  refine TE (fun _ h => h.pick [1, 2, 3, 4, 5, 6]) ?_
  refine MB (z := #[.slice (some ⟨(G 5), 0, none⟩) 32 32, .slice (some ⟨D, 64, none⟩) 32 32, v]) (t := 22) (n := 3) (c := 3) ?_ (hr := fun W hS => J2k [.slice (some ⟨(G 5), 0, none⟩) 32 32, .slice (some ⟨D, 64, none⟩) 32 32, v] rfl rfl (vsc (K6 (K0 (V := U5) (n := 32) (off := 0) (c := 32) (hS.blk (i := 1) rfl) ap0 (by decide) (by decide))).1 (vsc (K6 (K0 (V := U3) (n := 32) (off := 64) (c := 32) (hS.blk (i := 4) rfl) Z7b (by decide) (by decide))).1 (vsc (K6 (J5j hs hS.ext)).1 vs0))) Tryz.underlying113 (by kernel_rfl) (by kernel_rfl) rfl (by decide) (by decide))
  intro Ξ
  refine TNp [0, 2, 3, 4, 5, 6, 7] [1, 2, 3, 4, 5, 6] ?_
  refine TE (fun _ h => h.pick [0, 2, 3, 4, 5, 6, 7]) ?_
  refine MC (v := .agg (c4 U6)) (fun W hS => J4u (kn := kn) T.out [lb 32 U5, lb 32 U3, L] (some ⟨Ξ, 0, none⟩) 3 (by simp only [List.flatten_cons, List.flatten_nil, List.append_nil, List.nil_append, List.append_assoc, List.cons_append]) (by first | omega | (simp only [List.length_append, List.length_cons, List.length_nil, J8]; omega)) (by simp) W (J1z (hS.blk (i := 0) rfl) (pvc (K0 (V := U5) (n := 32) (off := 0) (c := 32) (hS.blk (i := 2) rfl) ap0 (by decide) (by decide)) (pvc (K0 (V := U3) (n := 32) (off := 64) (c := 32) (hS.blk (i := 5) rfl) Z7b (by decide) (by decide)) (pvc (J5j hs hS.ext) pv0)))) (GA_ext hG hS.ext)) ?_
  refine TNp [0, 2, 3, 4, 5, 6, 7] [0, 1, 2, 3, 4, 5, 6] ?_
  refine TE (fun _ h => h.pick [0, 2, 3, 4, 5, 6, 7]) ?_
  refine MR 1 ?_ 
  refine TNp [0, 2, 3, 4, 5, 6, 7] [0, 1, 2, 3, 4, 5, 6] ?_
  refine TZ (fun _ h => h.pick [0, 2, 3, 4, 5, 6, 7]) fun W hS => ?_
  exact ⟨D2, Ξ, rfl, hS.pick [0, 1, 4, 7, 6, 5, 3, 2]⟩
 rintro _ W ⟨M, J, rfl, hS⟩
 go_upto_region 5 with fail
 refine RXn 8 [⟨8, 9, J0 .u8 32 (Q3 0), 23⟩] hS ?_ (by simp only [List.forall_mem_cons]; exact ⟨⟨_, rfl, rfl, rfl, fun _ _ => by kernel_rfl⟩, fun _ h => by cases h⟩)
 clear hS
 refine ML 6 ?_
 refine ML 1 ?_
 refine MV ?_
 refine MW ?_ (v := .slice (some ⟨D, 0, none⟩) 32 32)
 refine MC (v := .agg (c4 U7)) (fun W hS => Y5a μ.out (n := 32) (off := 0) (hS.blk (i := 5) rfl) V0y (by decide) D6 (GA_ext hG hS.ext).2.2.1) ?_
 refine MC (v := .agg (c4 U8)) (fun W hS => Y7m σ.out (Nat.lt_trans τ J1i) (Nat.lt_trans χ J1i) W (GA_ext hG hS.ext).2.2.1) ?_
 refine MC (v := .agg (c4 U9)) (fun W hS => Y7n ω.out (Nat.lt_trans U J1i) (Nat.lt_trans κ J1i) W (GA_ext hG hS.ext).2.2.1) ?_
 refine MC (v := .agg (J0 .u8 32 (Q3 U9))) (fun W hS => J9l ψ W (GA_ext hG hS.ext).2.2.1) ?_
 refine MZB fun D5 => ?_
 refine MR 0 ?_ 
 refine MZn fun W hS => ?_
 go_upto_region 6 with fail
 refine RTp [0, 1, 2, 3, 4, 6, 7, 8] (.q 1 (.q 3 (.e 0 (.e 2 (.e 4 (.q 5 (.q 6 (.e 7 .z)))))))) hS ?_
 clear hS
 refine TW ?_ (v := .slice (some ⟨(G 5), 0, none⟩) 32 32)
 refine TW ?_ (v := .slice (some ⟨(D5 8), 0, none⟩) 32 32)
 refine TE (fun _ h => h.pick [0, 1, 2, 3, 4, 6, 7, 8]) ?_
 refine MO (m := []) (n := 0) (z := #[]) ?_
 intro G2
 refine TNp [1, 2, 3, 4, 5, 7, 8, 9] [0, 1, 2, 3, 4, 5, 6, 7] ?_
 refine TE (fun _ h => h.pick [1, 2, 3, 4, 5, 7, 8, 9]) ?_
 refine MA 0 (xs := []) (ys := (lb 32 U5)) (fun W hS => (K0 (V := U5) (n := 32) (off := 0) (c := 32) (hS.blk (i := 9) rfl) ap0 (by decide) (by decide))) (by first | omega | (simp only [List.length_append, List.length_cons, List.length_nil, J8]; omega)) ?_
 intro D9
 refine TNp [1, 2, 3, 4, 5, 7, 8, 9] [0, 1, 2, 3, 4, 5, 6, 7] ?_
 refine TE (fun _ h => h.pick [1, 2, 3, 4, 5, 7, 8, 9]) ?_
 refine MA 0 (xs := ([] ++ (lb 32 U5))) (ys := (lb 32 U9)) (fun W hS => (K0 (V := U9) (n := 32) (off := 0) (c := 32) (hS.blk (i := 1) rfl) ap0 (by decide) (by decide))) (by first | omega | (simp only [List.length_append, List.length_cons, List.length_nil, J8]; omega)) ?_
 intro G6
 have ν : (([] ++ (lb 32 U5)) ++ (lb 32 U9)).length = 64 := by simp only [List.length_append, J8, List.length_nil]
 refine J78 (fun W hS => Y7p (hS.own (i := 0) rfl) ν) ?_
 rintro ⟨gz, cz, ez⟩
 refine TNp [0, 1, 2, 3, 4, 5, 7, 8, 9] [1, 2, 3, 4, 5, 6, 7, 8] ?_
 refine TW ?_ (v := .pointer (some ⟨gz, 0, none⟩)) (hv := fun _ => Y1t (n := 64) rfl (by exact ez) Tryz.underlying45)
 refine TF (v := .agg (J0 .u8 64 (Q3 (U5 + 2 ^ 256 * U9)))) rfl (fun W hS => J0g (vs := (J0 .u8 64 (Q3 (U5 + 2 ^ 256 * U9))).toList) rfl rfl (Y7o (hS.own (i := 0) rfl) ez ν (by decide) (by rw [List.nil_append]; exact Y1u D0)) (by kernel_rfl) (by rw [Array.length_toList, J1]; kernel_rfl)) ?_
 refine TE (fun _ h => h.pick [0, 1, 2, 3, 4, 5, 7, 8, 9]) ?_
 refine MR 6 ?_ 
 refine TNp [0, 1, 2, 3, 4, 5, 7, 8, 9] [0, 1, 2, 3, 4, 5, 6, 7, 8] ?_
 refine TZ (fun _ h => h.pick [0, 1, 2, 3, 4, 5, 7, 8, 9]) fun W hS => ?_
 go_wp2
 rw [show J0 .u8 64 (Q3 (U5 + 2 ^ 256 * U9)) = J0 .u8 64 (Q3 (sig S L)) by rw [ω.out, σ.out, μ.out, T.out, φ.out, ξ.out, Δ.out, Ω.out, ρ.out]; rfl] at hS
 exact bodyPost_ret (Z6 rfl rfl (hS.blk (i := 6) rfl) (by kernel_rfl) (by rw [J1]; kernel_rfl)) rfl ⟨rfl, hS.ext⟩
end
end Go.Proofs.YtejkmhgkkibafaaGreatDoor.S8
