/- sign: number, Spread, Sign. Conditions: the cells of the variables hold their numbers. sign: Sign. Conditions: the cells of the variables hold their numbers. -/
import Derived.Test.YtejkmhgkkibafaaGreatDoorJ6
import Derived.Test.YtejkmhgkkibafaaGreatDoorJ3
import Derived.Test.YtejkmhgkkibafaaGreatDoorJ8
import Derived.Test.YtejkmhgkkibafaaGreatDoorJ18
import Derived.Test.YtejkmhgkkibafaaGreatDoorJ9
import Derived.Test.YtejkmhgkkibafaaGreatDoorJ19
import Derived.Test.YtejkmhgkkibafaaGreatDoorJ17
open Go.RowKit
set_option maxRecDepth 100000
set_option linter.unusedSimpArgs false
set_option linter.unusedVariables false
namespace Go.Proofs.YtejkmhgkkibafaaGreatDoor.S8
section
set_option maxHeartbeats 1000000
attribute [local irreducible] wpList J01 wpX
variable {kn : Kn}
open Sc (LL J3t)
def GA (kn : Kn) (w : World) : Prop := GE kn w ∧ GS w ∧ Sc.GL w ∧ (kn.r → GR w)
theorem Y86 {w W : World} (h : Sc.GL w) (k : Ext w W) : Sc.GL W := ⟨J2b h.1 k, J2b h.2.1 k, J2b h.2.2.1 k, J2b h.2.2.2.1 k, Nat.lt_of_lt_of_le h.2.2.2.2 k.size⟩
theorem GA_ext {w W : World} (h : GA kn w) (k : Ext w W) : GA kn W := ⟨Q8 h.1 k, Q51 h.2.1 k, Y86 h.2.2.1 k, fun x => GR_ext (h.2.2.2 x) k⟩
def s3 (N D P : Nat) : Array Value := J0 .u8 32 (Q3 N) ++ J0 .u8 32 (Q3 D) ++ J0 .u8 32 (Q3 P)
section
variable {N D P : Nat}
theorem V1j : ∀ i v, (J0 .u8 32 (Q3 N))[i]? = some v → (s3 N D P)[0 + i]? = some v := fun i v h => by rw [Nat.zero_add]; exact J3y (J3y h)
theorem V1k : ∀ i v, (J0 .u8 32 (Q3 D))[i]? = some v → (s3 N D P)[32 + i]? = some v := fun i v h => J3y (J6t (J2 _ _ _) h)
theorem Z7t : ∀ i v, (J0 .u8 32 (Q3 P))[i]? = some v → (s3 N D P)[64 + i]? = some v := fun i v h => J6t (by rw [Array.size_append, J2, J2]) h
theorem J27 : (s3 N D P).size = 96 := by unfold s3; rw [Array.size_append, Array.size_append, J2, J2, J2]
theorem Q9n : (s3 N D P).all (·.oneCell') = true := by unfold s3; rw [Array.all_append, Array.all_append, Z0, Z0, Z0]; rfl
end
theorem Z7u (a : List Value) : ∀ (vs b : List Value), b.length = vs.length → spl (a ++ b).toArray a.length vs = (a ++ vs).toArray
 | [], b, h => by rw [List.eq_nil_of_length_eq_zero h]; rfl
 | v :: vs, [], h => by simp at h
 | v :: vs, x :: b, h => by
  show spl ((a ++ x :: b).toArray.setIfInBounds a.length v) (a.length + 1) vs = _
  rw [List.setIfInBounds_toArray, List.set_append_right _ _ (Nat.le_refl _), Nat.sub_self, List.set_cons_zero]
  have := Z7u (a ++ [v]) vs b (by simpa using h)
  simpa using this
theorem Y87 (N D P Q : Nat) : spl (s3 N D Q) 64 (J0 .u8 32 (Q3 P)).toList = s3 N D P := by
 have h := Z7u (J5a .u8 32 (Q3 N) ++ J5a .u8 32 (Q3 D)) (J5a .u8 32 (Q3 P)) (J5a .u8 32 (Q3 Q)) (by rw [J5g, J5g])
 rw [List.length_append, J5g, J5g] at h
 have e : ∀ X, s3 N D X = (J5a .u8 32 (Q3 N) ++ J5a .u8 32 (Q3 D) ++ J5a .u8 32 (Q3 X)).toArray := fun X => by
  unfold s3; apply Array.ext'; simp only [Array.toList_append, J2d]
 rw [e, e, J2d]; exact h
theorem Z7v {H : Nat} {F : List UInt8} (hH : H = hs F) (ps : List (List UInt8)) (A : Option Addr) (c : Nat) (hF : ps.flatten = F) (hlen : F.length ≤ 70368744177664) (hpn : ps.length ≤ 9223372036854775000) (w : World) (hps : ∀ i l, ps[i]? = some l → ∃ ad u, A = some ad ∧ w.cell? (ad.add i) = some u ∧ Sl w u l) (hG : GS w) :
  Calls Tryz.prog 125 #[.slice A ps.length c] w fun e w' => K6 (.agg (J0 .u8 64 (Q3 H))) w w' e := by
 rw [hH, ← V1l]; exact V1m ps A c F hF hlen hpn w hps hG
theorem Y5u {X : Nat} {w : World} {b off n c V : Nat} {cs : Array Value} {t : TypeId} (hX : X = V % LL) (hB : Blk w b cs t) (hc : ∀ i v, (J0 .u8 n (Q3 V))[i]? = some v → cs[off + i]? = some v) (hn : n ≤ 700) (hV : V < 2 ^ (8 * n)) (hG : Sc.GL w) :
  Calls Tryz.prog 95 #[.slice (some ⟨b, off, none⟩) n c] w fun e w' => K6 (L4 X) w w' e := by
 have h := Sc.of_c (Q3 V) (J38 V) b off n c w hG hn (fun j hj => by rw [Q0 hB]; exact hc j _ (J4 _ _ _ _ hj)) (J6 hB)
 rw [J4e, Nat.mod_eq_of_lt hV, ← hX] at h
 exact h
theorem J9w {V : Nat} (hV : V < LL) (w : World) (hG : Sc.GL w) : Calls Tryz.prog 91 #[L4 V] w fun e w' => K6 (.agg (J0 .u8 32 (Q3 V))) w w' e := by
 have h := Sc.bytes_c V (Nat.lt_trans hV J1q) w hG
 rw [Nat.mod_eq_of_lt hV] at h
 exact h
theorem Y88 {X A B : Nat} (hX : X = A * B % LL) (hA : A < Q7) (hB : B < Q7) (w : World) (hG : Sc.GL w) : Calls Tryz.prog 94 #[L4 A, L4 B] w fun e w' => K6 (L4 X) w w' e := hX ▸ Sc.mul_c A B hA hB w hG
theorem Y89 {X A B : Nat} (hX : X = (A + B) % LL) (hA : A < Q7) (hB : B < Q7) (w : World) (hG : Sc.GL w) : Calls Tryz.prog 93 #[L4 A, L4 B] w fun e w' => K6 (L4 X) w w' e := hX ▸ Sc.add_c A B hA hB w hG
theorem Z7w {X V : Nat} (hX : X = clN V) (w : World) : Calls Tryz.prog 126 #[.agg (J0 .u8 32 (Q3 V))] w fun e w' => K6 (.agg (J0 .u8 32 (Q3 X))) w w' e := by
 have h := Sc.clamp_c (Q3 V) (J38 V) w
 rw [Y2b, ← hX] at h
 exact h
theorem Q68 {X X1 Y1 Z1 T1 : Nat} {p1 : Pr} (h1 : RW X1 Y1 Z1 T1 p1) (hX : X = enc p1) (w : World) (hG : GE kn w) : Calls Tryz.prog 92 #[.agg (p4 X1 Y1 Z1 T1)] w fun e w' => K6 (.agg (J0 .u8 32 (Q3 X))) w w' e := hX ▸ Y79 h1 w hG

theorem J54 {X : Nat} {F : List UInt8} (hX : X = hs F % LL) (ps : List (List UInt8)) (A : Option Addr) (c : Nat) (hF : ps.flatten = F) (hlen : F.length ≤ 70368744177664) (hpn : ps.length ≤ 9223372036854775000) (w : World) (hps : ∀ i l, ps[i]? = some l → ∃ ad u, A = some ad ∧ w.cell? (ad.add i) = some u ∧ Sl w u l) (hG : GA kn w) :
  Calls Tryz.prog 88 #[.slice A ps.length c] w fun e w' => K6 (L4 X) w w' e := by
 have N := Lib.hid hps
 clear hps
 rw [hX]
 clear hX
 have hS := SH.nil [] w
 go_enter Tryz.func88, Tryz.ntmps88
 go_upto_region 0 with fail
 refine RL hS ?_
 clear hS
 refine MN (z := c4 0) (t := 153) ?_
 intro U
 refine MZ fun W hS => ?_
 go_upto_region 1 with fail
 refine RL hS ?_
 clear hS
 refine MV ?_
 obtain ⟨U1, M⟩ := V0 (hs F)
 have D := Lib.hid M
 clear M
 refine MC (v := .agg (J0 .u8 64 (Q3 U1))) (fun W hS => Z7v D.out ps A c hF hlen hpn W (Z62 hS.off N.out) (GA_ext hG hS.ext).2.1) ?_
 refine MN (z := J0 .u8 64 (Q3 0)) (t := 45) ?_
 intro S
 refine MR 0 ?_ 
 refine MZ fun W hS => ?_
 go_upto_region 2 with fail
 refine RL hS ?_
 clear hS
 refine MW ?_ (v := .slice (some ⟨S, 0, none⟩) 64 64)
 obtain ⟨U2, G⟩ := V0 (U1 % LL)
 have R : U2 < LL := by rw [G]; exact mLL _
 have T : U2 < 2 ^ 256 := Nat.lt_trans R J1q
 have J := Lib.hid G
 clear G
 refine MC (v := .agg (c4 U2)) (fun W hS => Y5u J.out (n := 64) (off := 0) (hS.blk (i := 0) rfl) ap0 (by decide) (by rw [D.out]; exact Q9o _) (GA_ext hG hS.ext).2.2.1) ?_
 refine MR 1 ?_ 
 refine MZ fun W hS => ?_
 go_wp2
 rw [J.out, D.out] at hS
 exact bodyPost_ret (Y3 rfl rfl (hS.blk (i := 1) rfl) (by kernel_rfl) (by kernel_rfl)) rfl ⟨rfl, hS.ext⟩
theorem Z3y (hd : kn.d) (hb : kn.b) (S : Nat) :
  ∀ w, GA kn w → Calls Tryz.prog 77 #[.agg (J0 .u8 32 (Q3 S))] w fun e w' => K6 (.agg (s3 (kN S) (kD S) (kP S))) w w' e := by
 obtain ⟨U1, T⟩ := V0 (hs ((lb 32 S)))
 have R := Lib.hid T
 clear T
 obtain ⟨U2, J⟩ := V0 (clN (lo U1))
 have Y : U2 < 2 ^ 256 := by rw [J]; exact Z7x _
 have U := Lib.hid J
 clear J
 obtain ⟨x1, y2, z3, t4, r5, c6⟩ := Q5r hb
 obtain ⟨x7, y8, z9, Z, β, γ⟩ := J9r hd r5.rw (N := U2) Y
 obtain ⟨U3, M⟩ := V0 (enc (pm BP U2))
 have ε : U3 < 2 ^ 256 := by rw [M]; exact Q0d _
 have X := Lib.hid M
 clear M
 intro w hG
 have hS := SH.nil [] w
 go_enter Tryz.func77, Tryz.ntmps77
 go_upto_region 0 with fail
 refine RL hS ?_
 clear hS
 refine MN (z := J0 .u8 32 (Q3 S)) (t := 23) ?_
 intro G
 refine MN (z := s3 0 0 0) (t := 140) ?_
 intro δ
 refine MZ fun W hS => ?_
 go_upto_region 1 with fail
 refine RL hS ?_
 clear hS
 refine MW ?_ (v := .slice (some ⟨G, 0, none⟩) 32 32)
 refine MB (z := #[.slice (some ⟨G, 0, none⟩) 32 32]) (t := 22) (n := 1) (c := 1) ?_ (hr := fun W hS => J2s [.slice (some ⟨G, 0, none⟩) 32 32] rfl rfl (vsc (K9 (K1 (V := S) (n := 32) (off := 0) (c := 32) (hS.blk (i := 1) rfl) ap0 (by decide) (by decide))).1 vs0) Tryz.underlying113 (by kernel_rfl) (by kernel_rfl) rfl (by decide) (by decide))
 intro α
 refine MC (v := .agg (J0 .u8 64 (Q3 U1))) (fun W hS => Z7v R.out [lb 32 S] (some ⟨α, 0, none⟩) 1 (by simp only [List.flatten_cons, List.flatten_nil, List.append_nil, List.nil_append, List.append_assoc, List.cons_append]) (by first | omega | (simp only [List.length_append, List.length_cons, List.length_nil, Q1]; omega)) (by simp) W (J26 (hS.blk (i := 0) rfl) (pvc (K1 (V := S) (n := 32) (off := 0) (c := 32) (hS.blk (i := 2) rfl) ap0 (by decide) (by decide)) pv0)) (GA_ext hG hS.ext).2.1) ?_
 refine MN (z := J0 .u8 64 (Q3 0)) (t := 45) ?_
 intro D
 refine MR 0 ?_ 
 refine MZ fun W hS => ?_
 go_upto_region 2 with fail
 refine RXn 8 [⟨8, 4, s3 0 0 0, 140⟩] hS ?_ (by simp only [List.forall_mem_cons]; exact ⟨⟨_, rfl, rfl, rfl, fun _ _ => by kernel_rfl⟩, fun _ h => by cases h⟩)
 clear hS
 refine MW ?_ (v := .slice (some ⟨D, 0, none⟩) 32 64)
 refine MW ?_ (v := .pointer (some ⟨D, 0, none⟩)) (hv := by intro W; first | rfl | (go_simp; done) | (go_simp; with_reducible rfl))
 refine Ml 0 Q7y ?_
 refine MC (v := .agg (J0 .u8 32 (Q3 U2))) (fun W hS => Z7w U.out W) ?_
 refine MW ?_ (v := .slice (some ⟨D, 32, none⟩) 32 32)
 refine MW ?_ (v := .pointer (some ⟨D, 32, none⟩)) (hv := by intro W; first | rfl | (go_simp; done) | (go_simp; with_reducible rfl))
 refine Ml 0 Y2d ?_
 refine MW ?_ (v := .agg (s3 U2 (hi U1) 0)) (hv := by intro W; kernel_rfl)
 refine MZB fun ζ => ?_
 refine MR 0 ?_ (hz := by rw [J27]; kernel_rfl) (hs := by first | rw [J27, J27] | rw [J27] | kernel_rfl) (h1 := Q9n)
 refine MZn fun W hS => ?_
 go_upto_region 3 with fail
 refine RX 6 hS ?_
 clear hS
 refine MC (v := .agg (p4 x1 y2 z3 t4)) (fun W hS => c6 W (GA_ext hG hS.ext).1) ?_
 refine MV ?_
 refine Ml 0 V1j ?_
 refine MC (v := .agg (p4 x7 y8 z9 Z)) (fun W hS => γ W (GA_ext hG hS.ext).1) ?_
 refine MC (v := .agg (J0 .u8 32 (Q3 U3))) (fun W hS => Q68 β.rw X.out W (GA_ext hG hS.ext).1) ?_
 refine MV ?_
 refine MZt ?_
 refine Mr 0 (off := 64) (Y87 _ _ _ _) ?_ (hs := by rw [J2, J27]; decide)
 refine MZn fun W hS => ?_
 go_upto_region 4 with fail
 refine RL hS ?_
 clear hS
 refine ML 0 ?_ (hs := by rw [J27]; kernel_rfl)
 refine MR 3 ?_ (hz := by rw [J27]; kernel_rfl) (hs := by first | rw [J27, J27] | rw [J27] | kernel_rfl) (h1 := Q9n)
 refine MZ fun W hS => ?_
 go_wp2
 rw [show s3 U2 (hi U1) U3 = s3 (kN S) (kD S) (kP S) by rw [X.out, U.out, R.out]; rfl] at hS
 exact bodyPost_ret (Y3 rfl rfl (hS.blk (i := 3) rfl) (by kernel_rfl) (by rw [J27]; kernel_rfl)) rfl ⟨rfl, hS.ext⟩
end

section
set_option maxHeartbeats 1000000
attribute [local irreducible] wpList J01 wpX
variable {kn : Kn}
open Sc (LL J3t)
theorem spreadN_c (hd : kn.d) (hb : kn.b) {N D P S : Nat} (hN : N = kN S) (hD : D = kD S) (hP : P = kP S) (w : World) (hG : GA kn w) :
  Calls Tryz.prog 77 #[.agg (J0 .u8 32 (Q3 S))] w fun e w' => K6 (.agg (s3 N D P)) w w' e := by
 rw [hN, hD, hP]; exact Z3y hd hb S w hG
theorem Q7z {w : World} {v : Value} {l : List UInt8} (h : Own w v l) (hp : 0 < l.length) : ∃ g c cur, v = .slice (some ⟨g, 0, none⟩) l.length c ∧ Blk w g cur 5 ∧ cur.toList.take l.length = bs8 l := by
 rcases h.2 with ⟨_, h0⟩ | ⟨g, c, cur, hv, _, hh, _, _, _, ht⟩
 ·
  omega
 exact ⟨g, c, cur, hv, hh, by rwa [Nat.mul_one] at ht⟩
theorem Y2e {P : Program} {W : World} {o : Oper} {a : Act} {x : Operand} {arr e : TypeId} {n c : Nat} {ad : Addr} (ho : o.op = .sliceToArrayPointer arr x) (hx : a.eval x = .slice (some ad) n c) (hu : P.underlying arr = some (.array n e)) : (execOp a.eval o).run P W = .ok (.value (.pointer (some ad))) W := by
 simp [execOp, ho, hx, Instr.arrayAt, run_underlying hu, Sem.run_bind]
theorem Y2f {A T : Nat} (hA : A < 2 ^ 256) : lb 32 A ++ lb 32 T = lb 64 (A + 2 ^ 256 * T) := by
 rw [Z7y]
 unfold lo hi
 rw [Nat.add_mul_mod_self_left, Nat.mod_eq_of_lt hA, Nat.add_mul_div_left _ _ (by decide), Nat.div_eq_of_lt hA, Nat.zero_add]
theorem Y8a {W : World} {v : Value} {l : List UInt8} {g c m n V : Nat} (h : Own W v l) (ez : v = .slice (some ⟨g, 0, none⟩) m c) (hn : l.length = n) (hp : 0 < n) (hl : l = lb n V) : ∀ i x, (J0 .u8 n (Q3 V)).toList[i]? = some x → W.cell? ⟨g, 0 + i, none⟩ = some x := fun i x hx => by
 obtain ⟨g', c', D, e', hB, ht⟩ := Q7z h (by omega)
 rw [ez] at e'
 injection e' with e1 _ _
 injection e1 with e1
 injection e1 with e1 _ _
 subst e1
 have hi : i < n := by have := (List.getElem?_eq_some_iff.1 hx).1; rwa [Array.length_toList, J2] at this
 rw [Q0 hB, Nat.zero_add, ← Array.getElem?_toList, ← List.getElem?_take_of_lt (l := D.toList) (show i < l.length by rw [hn]; exact hi), ht, hl, J72, ← J2d]
 exact hx
theorem Y8b {w : World} {v : Value} {l : List UInt8} (h : Own w v l) (hl : l.length = 64) : ∃ g c, v = .slice (some ⟨g, 0, none⟩) 64 c := by
 obtain ⟨g, c, D, h1, _, _⟩ := Q7z h (by omega)
 exact ⟨g, c, by rw [← hl]; exact h1⟩
theorem Y8c (hd : kn.d) (hb : kn.b) (S : Nat) (v : Value) (L : List UInt8) (hL : L.length ≤ 1099511627776) :
  ∀ w, GA kn w → Sl w v L → Calls Tryz.prog 52 #[.agg (J0 .u8 32 (Q3 S)), v] w fun e w' => K6 (.agg (J0 .u8 64 (Q3 (sig S L)))) w w' e := by
 obtain ⟨U1, α⟩ := V0 (kN S)
 have D1 : U1 < 2 ^ 256 := by rw [α]; exact V1o _
 have ω := Lib.hid α
 clear α
 obtain ⟨U2, Y⟩ := V0 (kD S)
 have G2 : U2 < 2 ^ 256 := by rw [Y]; exact V1p _
 have Ψ := Lib.hid Y
 clear Y
 obtain ⟨U3, θ⟩ := V0 (kP S)
 have G3 : U3 < 2 ^ 256 := by rw [θ]; exact kP_lt _
 have Θ := Lib.hid θ
 clear θ
 obtain ⟨U4, β⟩ := V0 (hs ((lb 32 U2) ++ L) % LL)
 have T : U4 < LL := by rw [β]; exact mLL _
 have G5 : U4 < 2 ^ 256 := Nat.lt_trans T J1q
 have ξ := Lib.hid β
 clear β
 obtain ⟨x1, y2, z3, t4, r5, c6⟩ := Q5r hb
 obtain ⟨x7, y8, z9, σ, D7, D3⟩ := J9r hd r5.rw (N := U4) (Nat.lt_trans T J1q)
 obtain ⟨U5, δ⟩ := V0 (enc (pm BP U4))
 have D8 : U5 < 2 ^ 256 := by rw [δ]; exact Q0d _
 have χ := Lib.hid δ
 clear δ
 obtain ⟨U6, ζ⟩ := V0 (hs ((lb 32 U5) ++ (lb 32 U3) ++ L) % LL)
 have μ : U6 < LL := by rw [ζ]; exact mLL _
 have G0 : U6 < 2 ^ 256 := Nat.lt_trans μ J1q
 have X := Lib.hid ζ
 clear ζ
 obtain ⟨U7, η⟩ := V0 (U1 % LL)
 have D0 : U7 < LL := by rw [η]; exact mLL _
 have G1 : U7 < 2 ^ 256 := Nat.lt_trans D0 J1q
 have τ := Lib.hid η
 clear η
 obtain ⟨U8, γ⟩ := V0 (U6 * U7 % LL)
 have ν : U8 < LL := by rw [γ]; exact mLL _
 have G8 : U8 < 2 ^ 256 := Nat.lt_trans ν J1q
 have Ω := Lib.hid γ
 clear γ
 obtain ⟨U9, Z⟩ := V0 ((U4 + U8) % LL)
 have φ : U9 < LL := by rw [Z]; exact mLL _
 have G4 : U9 < 2 ^ 256 := Nat.lt_trans φ J1q
 have ρ := Lib.hid Z
 clear Z
 intro w hG hs
 have hS := SH.nil [] w
 go_enter Tryz.func52, Tryz.ntmps52
 go_upto_region 0 with fail
 refine RL hS ?_
 clear hS
 refine MN (z := J0 .u8 32 (Q3 S)) (t := 23) ?_
 intro ψ
 refine MN (z := J0 .u8 64 (Q3 0)) (t := 45) ?_
 intro Γ
 refine MZ fun W hS => ?_
 go_upto_region 1 with fail
 refine RL hS ?_
 clear hS
 refine ML 1 ?_
 refine MC (v := .agg (s3 U1 U2 U3)) (fun W hS => spreadN_c hd hb ω.out Ψ.out Θ.out W (GA_ext hG hS.ext)) ?_
 refine MN (z := s3 0 0 0) (t := 140) ?_
 intro D
 refine MR 0 ?_ (hz := by rw [J27]; kernel_rfl) (hs := by first | rw [J27, J27] | rw [J27] | kernel_rfl) (h1 := Q9n)
 refine MZ fun W hS => ?_
 go_upto_region 2 with fail
 refine RL hS ?_
 clear hS
 refine MV ?_
 refine MW ?_ (v := .slice (some ⟨D, 32, none⟩) 32 32)
 refine MV ?_
 refine MB (z := #[.slice (some ⟨D, 32, none⟩) 32 32, v]) (t := 22) (n := 2) (c := 2) ?_ (hr := fun W hS => J2s [.slice (some ⟨D, 32, none⟩) 32 32, v] rfl rfl (vsc (K9 (K1 (V := U2) (n := 32) (off := 32) (c := 32) (hS.blk (i := 0) rfl) V1k (by decide) (by decide))).1 (vsc (K9 (J5t hs hS.ext)).1 vs0)) Tryz.underlying113 (by kernel_rfl) (by kernel_rfl) rfl (by decide) (by decide))
 intro ε
 refine MC (v := .agg (c4 U4)) (fun W hS => J54 (kn := kn) ξ.out [lb 32 U2, L] (some ⟨ε, 0, none⟩) 2 (by simp only [List.flatten_cons, List.flatten_nil, List.append_nil, List.nil_append, List.append_assoc, List.cons_append]) (by first | omega | (simp only [List.length_append, List.length_cons, List.length_nil, Q1]; omega)) (by simp) W (J26 (hS.blk (i := 0) rfl) (pvc (K1 (V := U2) (n := 32) (off := 32) (c := 32) (hS.blk (i := 1) rfl) V1k (by decide) (by decide)) (pvc (J5t hs hS.ext) pv0))) (GA_ext hG hS.ext)) ?_
 refine MN (z := c4 0) (t := 153) ?_
 intro Ξ
 refine MR 0 ?_ 
 refine MZ fun W hS => ?_
 go_upto_region 3 with fail
 refine RXn 5 [⟨5, 7, J0 .u8 32 (Q3 0), 23⟩] hS ?_ (by simp only [List.forall_mem_cons]; exact ⟨⟨_, rfl, rfl, rfl, fun _ _ => by kernel_rfl⟩, fun _ h => by cases h⟩)
 clear hS
 refine MC (v := .agg (p4 x1 y2 z3 t4)) (fun W hS => c6 W (GA_ext hG hS.ext).1) ?_
 refine ML 0 ?_
 refine MC (v := .agg (J0 .u8 32 (Q3 U4))) (fun W hS => J9w T W (GA_ext hG hS.ext).2.2.1) ?_
 refine MC (v := .agg (p4 x7 y8 z9 σ)) (fun W hS => D3 W (GA_ext hG hS.ext).1) ?_
 refine MC (v := .agg (J0 .u8 32 (Q3 U5))) (fun W hS => Q68 D7.rw χ.out W (GA_ext hG hS.ext).1) ?_
 refine MZB fun G => ?_
 refine MR 0 ?_ 
 refine MZn fun W hS => ?_
 go_upto_region 4 with fail
 refine RJ (R := fun a_ w_ => ∃ (M : Nat), ∃ (J : Nat), a_ = { tmps := List.toArray ((.agg (J0 .u8 32 (Q3 S))) :: v :: (.pointer (some ⟨ψ, 0, none⟩)) :: undef :: (.pointer (some ⟨Γ, 0, none⟩)) :: (.pointer (some ⟨D, 0, none⟩)) :: (.pointer (some ⟨Ξ, 0, none⟩)) :: (.pointer (some ⟨(G 5), 0, none⟩)) :: (.pointer (some ⟨M, 0, none⟩)) :: undef :: (.agg (J0 .u8 32 (Q3 S))) :: (.agg (s3 U1 U2 U3)) :: (.pointer (some ⟨D, 32, none⟩)) :: (.slice (some ⟨D, 32, none⟩) 32 32) :: v :: (.slice (some ⟨ε, 0, none⟩) 2 2) :: (.agg (c4 U4)) :: (.agg (p4 x1 y2 z3 t4)) :: (.agg (c4 U4)) :: (.agg (J0 .u8 32 (Q3 U4))) :: (.agg (p4 x7 y8 z9 σ)) :: (.agg (J0 .u8 32 (Q3 U5))) :: (.slice (some ⟨(G 5), 0, none⟩) 32 32) :: (.pointer (some ⟨D, 64, none⟩)) :: (.slice (some ⟨D, 64, none⟩) 32 32) :: v :: (.slice (some ⟨J, 0, none⟩) 3 3) :: (.agg (c4 U6)) :: undef :: undef :: undef :: undef :: undef :: undef :: undef :: undef :: undef :: undef :: undef :: undef :: undef :: undef :: undef :: []), defers := [] } ∧ SH [] w w_ [.b J #[.slice (some ⟨(G 5), 0, none⟩) 32 32, .slice (some ⟨D, 64, none⟩) 32 32, v] 22, .b M (c4 U6) 153, .b ε #[.slice (some ⟨D, 32, none⟩) 32 32, v] 22, .b ψ (J0 .u8 32 (Q3 S)) 23, .b Γ (J0 .u8 64 (Q3 0)) 45, .b D (s3 U1 U2 U3) 140, .b Ξ (c4 U4) 153, .b (G 5) (J0 .u8 32 (Q3 U5)) 23]) ?_ ?_
 ·
  refine RTh (.q 0 (.q 1 (.q 2 (.q 3 (.b 4 (.b 5 (.e 6 (.e 7 .z)) 6 (.e 5 (.e 7 .z))) 6 (.e 4 (.e 5 (.e 7 .z)))))))) hS ?_
  clear hS
  refine TW ?_ (v := .slice (some ⟨(G 5), 0, none⟩) 32 32)
  refine TV ?_
  refine TW ?_ (v := .slice (some ⟨D, 64, none⟩) 32 32)
  refine TV ?_
  refine TB (fun _ h => h) ?_ ?_
  ·
   refine MB (z := #[.slice (some ⟨(G 5), 0, none⟩) 32 32, .slice (some ⟨D, 64, none⟩) 32 32, v]) (t := 22) (n := 3) (c := 3) ?_ (hr := fun W hS => J2s [.slice (some ⟨(G 5), 0, none⟩) 32 32, .slice (some ⟨D, 64, none⟩) 32 32, v] rfl rfl (vsc (K9 (K1 (V := U5) (n := 32) (off := 0) (c := 32) (hS.blk (i := 0) rfl) ap0 (by decide) (by decide))).1 (vsc (K9 (K1 (V := U3) (n := 32) (off := 64) (c := 32) (hS.blk (i := 3) rfl) Z7t (by decide) (by decide))).1 (vsc (K9 (J5t hs hS.ext)).1 vs0))) Tryz.underlying113 (by kernel_rfl) (by kernel_rfl) rfl (by decide) (by decide))
   intro U
   refine TNh (fun W hS => hS.pick [1, 2, 3, 4, 5, 6]) ?_
   refine TB (fun _ h => h) ?_ ?_
   ·
    refine MC (v := .agg (c4 U6)) (fun W hS => J54 (kn := kn) X.out [lb 32 U5, lb 32 U3, L] (some ⟨U, 0, none⟩) 3 (by simp only [List.flatten_cons, List.flatten_nil, List.append_nil, List.nil_append, List.append_assoc, List.cons_append]) (by first | omega | (simp only [List.length_append, List.length_cons, List.length_nil, Q1]; omega)) (by simp) W (J26 (hS.blk (i := 0) rfl) (pvc (K1 (V := U5) (n := 32) (off := 0) (c := 32) (hS.blk (i := 1) rfl) ap0 (by decide) (by decide)) (pvc (K1 (V := U3) (n := 32) (off := 64) (c := 32) (hS.blk (i := 4) rfl) Z7t (by decide) (by decide)) (pvc (J5t hs hS.ext) pv0)))) (GA_ext hG hS.ext)) ?_
    refine TNh (fun W hS => hS) ?_
    refine TE (fun _ h => h) ?_
    refine MN (z := c4 0) (t := 153) ?_
    intro D4
    refine TNp [1, 2, 3, 4, 5, 6, 7] [0, 1, 2, 3, 4, 5, 6] ?_
    refine TE (fun _ h => h.pick [1, 2, 3, 4, 5, 6, 7]) ?_
    refine MR 0 ?_ 
    refine TNp [1, 2, 3, 4, 5, 6, 7] [0, 1, 2, 3, 4, 5, 6] ?_
    refine TZ (fun _ h => h.pick [1, 2, 3, 4, 5, 6, 7]) fun W hS => ?_
    exact ⟨D4, U, rfl, hS.pick [1, 0, 4, 7, 6, 5, 3, 2]⟩
   refine MN (z := c4 0) (t := 153) ?_
   intro D5
   refine TNp [1, 2, 3, 4, 5, 6, 7] [0, 1, 2, 3, 4, 5, 6] ?_
   refine TE (fun _ h => h.pick [1, 2, 3, 4, 5, 6, 7]) ?_
   refine MC (v := .agg (c4 U6)) (fun W hS => J54 (kn := kn) X.out [lb 32 U5, lb 32 U3, L] (some ⟨U, 0, none⟩) 3 (by simp only [List.flatten_cons, List.flatten_nil, List.append_nil, List.nil_append, List.append_assoc, List.cons_append]) (by first | omega | (simp only [List.length_append, List.length_cons, List.length_nil, Q1]; omega)) (by simp) W (J26 (hS.blk (i := 1) rfl) (pvc (K1 (V := U5) (n := 32) (off := 0) (c := 32) (hS.blk (i := 2) rfl) ap0 (by decide) (by decide)) (pvc (K1 (V := U3) (n := 32) (off := 64) (c := 32) (hS.blk (i := 5) rfl) Z7t (by decide) (by decide)) (pvc (J5t hs hS.ext) pv0)))) (GA_ext hG hS.ext)) ?_
   refine TNp [1, 2, 3, 4, 5, 6, 7] [0, 1, 2, 3, 4, 5, 6] ?_
   refine TE (fun _ h => h.pick [1, 2, 3, 4, 5, 6, 7]) ?_
   refine MR 0 ?_ 
   refine TNp [1, 2, 3, 4, 5, 6, 7] [0, 1, 2, 3, 4, 5, 6] ?_
   refine TZ (fun _ h => h.pick [1, 2, 3, 4, 5, 6, 7]) fun W hS => ?_
   exact ⟨D5, U, rfl, hS.pick [1, 0, 4, 7, 6, 5, 3, 2]⟩
  refine MN (z := c4 0) (t := 153) ?_
  intro D6
  refine TNp [1, 2, 3, 4, 5, 6] [0, 1, 2, 3, 4, 5] ?_
  refine TE (fun _ h => h.pick [1, 2, 3, 4, 5, 6]) ?_
  refine MB (z := #[.slice (some ⟨(G 5), 0, none⟩) 32 32, .slice (some ⟨D, 64, none⟩) 32 32, v]) (t := 22) (n := 3) (c := 3) ?_ (hr := fun W hS => J2s [.slice (some ⟨(G 5), 0, none⟩) 32 32, .slice (some ⟨D, 64, none⟩) 32 32, v] rfl rfl (vsc (K9 (K1 (V := U5) (n := 32) (off := 0) (c := 32) (hS.blk (i := 1) rfl) ap0 (by decide) (by decide))).1 (vsc (K9 (K1 (V := U3) (n := 32) (off := 64) (c := 32) (hS.blk (i := 4) rfl) Z7t (by decide) (by decide))).1 (vsc (K9 (J5t hs hS.ext)).1 vs0))) Tryz.underlying113 (by kernel_rfl) (by kernel_rfl) rfl (by decide) (by decide))
  intro κ
  refine TNp [0, 2, 3, 4, 5, 6, 7] [1, 2, 3, 4, 5, 6] ?_
  refine TE (fun _ h => h.pick [0, 2, 3, 4, 5, 6, 7]) ?_
  refine MC (v := .agg (c4 U6)) (fun W hS => J54 (kn := kn) X.out [lb 32 U5, lb 32 U3, L] (some ⟨κ, 0, none⟩) 3 (by simp only [List.flatten_cons, List.flatten_nil, List.append_nil, List.nil_append, List.append_assoc, List.cons_append]) (by first | omega | (simp only [List.length_append, List.length_cons, List.length_nil, Q1]; omega)) (by simp) W (J26 (hS.blk (i := 0) rfl) (pvc (K1 (V := U5) (n := 32) (off := 0) (c := 32) (hS.blk (i := 2) rfl) ap0 (by decide) (by decide)) (pvc (K1 (V := U3) (n := 32) (off := 64) (c := 32) (hS.blk (i := 5) rfl) Z7t (by decide) (by decide)) (pvc (J5t hs hS.ext) pv0)))) (GA_ext hG hS.ext)) ?_
  refine TNp [0, 2, 3, 4, 5, 6, 7] [0, 1, 2, 3, 4, 5, 6] ?_
  refine TE (fun _ h => h.pick [0, 2, 3, 4, 5, 6, 7]) ?_
  refine MR 1 ?_ 
  refine TNp [0, 2, 3, 4, 5, 6, 7] [0, 1, 2, 3, 4, 5, 6] ?_
  refine TZ (fun _ h => h.pick [0, 2, 3, 4, 5, 6, 7]) fun W hS => ?_
  exact ⟨D6, κ, rfl, hS.pick [0, 1, 4, 7, 6, 5, 3, 2]⟩
 rintro _ W ⟨M, J, rfl, hS⟩
 go_upto_region 5 with fail
 refine RXn 8 [⟨8, 9, J0 .u8 32 (Q3 0), 23⟩] hS ?_ (by simp only [List.forall_mem_cons]; exact ⟨⟨_, rfl, rfl, rfl, fun _ _ => by kernel_rfl⟩, fun _ h => by cases h⟩)
 clear hS
 refine ML 6 ?_
 refine ML 1 ?_
 refine MV ?_
 refine MW ?_ (v := .slice (some ⟨D, 0, none⟩) 32 32)
 refine MC (v := .agg (c4 U7)) (fun W hS => Y5u τ.out (n := 32) (off := 0) (hS.blk (i := 5) rfl) V1j (by decide) D1 (GA_ext hG hS.ext).2.2.1) ?_
 refine MC (v := .agg (c4 U8)) (fun W hS => Y88 Ω.out (Nat.lt_trans μ J1q) (Nat.lt_trans D0 J1q) W (GA_ext hG hS.ext).2.2.1) ?_
 refine MC (v := .agg (c4 U9)) (fun W hS => Y89 ρ.out (Nat.lt_trans T J1q) (Nat.lt_trans ν J1q) W (GA_ext hG hS.ext).2.2.1) ?_
 refine MC (v := .agg (J0 .u8 32 (Q3 U9))) (fun W hS => J9w φ W (GA_ext hG hS.ext).2.2.1) ?_
 refine MZB fun D2 => ?_
 refine MR 0 ?_ 
 refine MZn fun W hS => ?_
 go_upto_region 6 with fail
 refine RTp [0, 1, 2, 3, 4, 6, 7, 8] (.q 1 (.q 3 (.e 0 (.e 2 (.e 4 (.q 5 (.q 6 (.e 7 .z)))))))) hS ?_
 clear hS
 refine TW ?_ (v := .slice (some ⟨(G 5), 0, none⟩) 32 32)
 refine TW ?_ (v := .slice (some ⟨(D2 8), 0, none⟩) 32 32)
 refine TE (fun _ h => h.pick [0, 1, 2, 3, 4, 6, 7, 8]) ?_
 refine MO (m := []) (n := 0) (z := #[]) ?_
 intro D9
 refine TNp [1, 2, 3, 4, 5, 7, 8, 9] [0, 1, 2, 3, 4, 5, 6, 7] ?_
 refine TE (fun _ h => h.pick [1, 2, 3, 4, 5, 7, 8, 9]) ?_
 refine MA 0 (xs := []) (ys := (lb 32 U5)) (fun W hS => (K1 (V := U5) (n := 32) (off := 0) (c := 32) (hS.blk (i := 9) rfl) ap0 (by decide) (by decide))) (by first | omega | (simp only [List.length_append, List.length_cons, List.length_nil, Q1]; omega)) ?_
 intro G7
 refine TNp [1, 2, 3, 4, 5, 7, 8, 9] [0, 1, 2, 3, 4, 5, 6, 7] ?_
 refine TE (fun _ h => h.pick [1, 2, 3, 4, 5, 7, 8, 9]) ?_
 refine MA 0 (xs := ([] ++ (lb 32 U5))) (ys := (lb 32 U9)) (fun W hS => (K1 (V := U9) (n := 32) (off := 0) (c := 32) (hS.blk (i := 1) rfl) ap0 (by decide) (by decide))) (by first | omega | (simp only [List.length_append, List.length_cons, List.length_nil, Q1]; omega)) ?_
 intro G6
 have Δ : (([] ++ (lb 32 U5)) ++ (lb 32 U9)).length = 64 := by simp only [List.length_append, Q1, List.length_nil]
 refine J7f (fun W hS => Y8b (hS.own (i := 0) rfl) Δ) ?_
 rintro ⟨gz, cz, ez⟩
 refine TNp [0, 1, 2, 3, 4, 5, 7, 8, 9] [1, 2, 3, 4, 5, 6, 7, 8] ?_
 refine TW ?_ (v := .pointer (some ⟨gz, 0, none⟩)) (hv := fun _ => Y2e (n := 64) rfl (by exact ez) Tryz.underlying45)
 refine TF (v := .agg (J0 .u8 64 (Q3 (U5 + 2 ^ 256 * U9)))) rfl (fun W hS => J0n (vs := (J0 .u8 64 (Q3 (U5 + 2 ^ 256 * U9))).toList) rfl rfl (Y8a (hS.own (i := 0) rfl) ez Δ (by decide) (by rw [List.nil_append]; exact Y2f D8)) (by kernel_rfl) (by rw [Array.length_toList, J2]; kernel_rfl)) ?_
 refine TE (fun _ h => h.pick [0, 1, 2, 3, 4, 5, 7, 8, 9]) ?_
 refine MR 6 ?_ 
 refine TNp [0, 1, 2, 3, 4, 5, 7, 8, 9] [0, 1, 2, 3, 4, 5, 6, 7, 8] ?_
 refine TZ (fun _ h => h.pick [0, 1, 2, 3, 4, 5, 7, 8, 9]) fun W hS => ?_
 go_wp2
 rw [show J0 .u8 64 (Q3 (U5 + 2 ^ 256 * U9)) = J0 .u8 64 (Q3 (sig S L)) by rw [ρ.out, Ω.out, τ.out, X.out, χ.out, ξ.out, Θ.out, Ψ.out, ω.out]; rfl] at hS
 exact bodyPost_ret (Y3 rfl rfl (hS.blk (i := 6) rfl) (by kernel_rfl) (by rw [J2]; kernel_rfl)) rfl ⟨rfl, hS.ext⟩
end
end Go.Proofs.YtejkmhgkkibafaaGreatDoor.S8
