/- Points as cells, and what the numbers of the code and of the document tell of points. No conditions. The highest bit of 32 bytes; '==' of 32 bytes; texts of numbers' bytes. No conditions. Texts and bytes, by index; a byte turned in a row of bytes; numbers of the bytes of a text. No conditions. -/
import Derived.Test.YtefpoollmbmkfaaDoorEg
import Derived.Test.YtefpoollmbmkfaaDoorGc
import Derived.Test.YtefpoollmbmkfaaDoorEb
import Derived.Test.YtefpoollmbmkfaaDoorEe
import Derived.Laws.BitsAllLaws
set_option linter.unusedSimpArgs false
set_option linter.unusedVariables false
namespace Go.Proofs.YtefpoollmbmkfaaDoor
set_option maxRecDepth 100000
open Go.RowKit

def D2 : Nat := 16295367250680780974490674513165176452449235426866156013048779062215315747161
def BX : Nat := 15112221349535400772501151409588531511454012693041857206046113283949847762202
def BY : Nat := 46316835694926478169428394003475163141307993866256225615783033603165251855960
def BP : Pr := (fp BX, fp BY)
theorem J80 : OnC BP := by unfold OnC; decide +kernel
theorem Y1w : fp D2 = 2 * dd := by decide +kernel
theorem Z6q : DD < Q5 := by decide
theorem Y19 : D2 < Q5 := by decide
theorem Q6 {A : Nat} (h : A < PP) : A < Q5 := Nat.lt_trans h (by decide)
theorem J2w (A : Nat) : A % PP < PP := Nat.mod_lt _ J3v
theorem bpp {X n : Nat} (h : X = n % PP) : X < PP := h ▸ J2w n
def p4 (X Y Z T : Nat) : Array Value := c4 X ++ c4 Y ++ c4 Z ++ c4 T
section
variable {X Y Z T : Nat}
theorem J7f : ∀ i v, (c4 X)[i]? = some v → (p4 X Y Z T)[0 + i]? = some v := fun i v h => by rw [Nat.zero_add]; exact J4e (J4e (J4e h))
theorem J8m : ∀ i v, (c4 Y)[i]? = some v → (p4 X Y Z T)[4 + i]? = some v := fun i v h => J4e (J4e (J97 rfl h))
theorem J5s : ∀ i v, (c4 Z)[i]? = some v → (p4 X Y Z T)[8 + i]? = some v := fun i v h => J4e (J97 rfl h)
theorem Z81 : ∀ i v, (c4 T)[i]? = some v → (p4 X Y Z T)[12 + i]? = some v := fun i v h => J97 rfl h
end
structure RN (X Y Z T : Nat) (a : Pr) : Prop where
  x : X < PP
  y : Y < PP
  z : Z < PP
  t : T < PP
  on : OnC a
  rc : Rc (fp X) (fp Y) (fp Z) (fp T) a
def RW (X Y Z T : Nat) (a : Pr) : Prop := RN X Y Z T a ∨ (X = 0 ∧ Y = 0 ∧ Z = 0 ∧ T = 0 ∧ a = p0)
structure RD (X Y Z : Nat) (a : Pr) : Prop where
  x : X < PP
  y : Y < PP
  z : Z < PP
  on : OnC a
  rr : Rr (fp X) (fp Y) (fp Z) a
section
variable {X Y Z T : Nat} {a : Pr}
theorem RN.rw (h : RN X Y Z T a) : RW X Y Z T a := .inl h
theorem RW.on (h : RW X Y Z T a) : OnC a := by
  rcases h with h | h
  · exact h.on
  · rw [h.2.2.2.2]; exact Q6e
theorem J76 : RW 0 0 0 0 p0 := .inr ⟨rfl, rfl, rfl, rfl, rfl⟩
theorem RW.x (h : RW X Y Z T a) : X < Q5 := by
  rcases h with h | h
  · exact Q6 h.x
  · rw [h.1]; decide
theorem RW.y (h : RW X Y Z T a) : Y < Q5 := by
  rcases h with h | h
  · exact Q6 h.y
  · rw [h.2.1]; decide
theorem RW.z (h : RW X Y Z T a) : Z < Q5 := by
  rcases h with h | h
  · exact Q6 h.z
  · rw [h.2.2.1]; decide
theorem RW.t (h : RW X Y Z T a) : T < Q5 := by
  rcases h with h | h
  · exact Q6 h.t
  · rw [h.2.2.2.1]; decide
theorem RN.nz (h : RN X Y Z T a) : Z ≠ 0 := fun e => h.rc.1 (by rw [e]; rfl)
theorem RW.cases (h : RW X Y Z T a) : (Z ≠ 0 ∧ RN X Y Z T a) ∨ (Z = 0 ∧ a = p0) := by
  rcases h with h | h
  · exact .inl ⟨h.nz, h⟩
  · exact .inr ⟨h.2.2.1, h.2.2.2.2⟩
theorem Z6k : RN 0 1 1 0 p0 := ⟨by decide, by decide, by decide, by decide, Q6e, by
  refine ⟨by decide +kernel, ?_, ?_, ?_⟩ <;> decide +kernel⟩
theorem RN.rr (h : RN X Y Z T a) : RD X Y Z a := ⟨h.x, h.y, h.z, h.on, h.rc.rr⟩
theorem J77 (A B : Nat) : fp ((A + (PP - B % PP)) % PP) = fp A - fp B := by rw [J0o, J8n, J7n]; grind
theorem J42 (A B : Nat) : fp ((A + B) % PP) = fp A + fp B := by rw [J0o, J8n]
theorem J1b (A B : Nat) : fp (A * B % PP) = fp A * fp B := by rw [J0o, J0j]
theorem Q6j (A : Nat) : fp ((PP - A % PP) % PP) = - fp A := by rw [J0o, J7n]
theorem Z01 {X1 Y1 Z1 T1 X2 Y2 Z2 T2 s1 s2 A a1 a2 B m C zz D E F G H x y z t : Nat} {p q : Pr} (r1 : RN X1 Y1 Z1 T1 p) (r2 : RN X2 Y2 Z2 T2 q)
    (e1 : s1 = (Y1 + (PP - X1 % PP)) % PP) (e2 : s2 = (Y2 + (PP - X2 % PP)) % PP) (eA : A = s1 * s2 % PP) (e3 : a1 = (Y1 + X1) % PP) (e4 : a2 = (Y2 + X2) % PP) (eB : B = a1 * a2 % PP)
    (e5 : m = T1 * D2 % PP) (eC : C = m * T2 % PP) (e6 : zz = (Z1 + Z1) % PP) (eD : D = zz * Z2 % PP) (eE : E = (B + (PP - A % PP)) % PP) (eF : F = (D + (PP - C % PP)) % PP) (eG : G = (D + C) % PP) (eH : H = (B + A) % PP)
    (ex : x = E * F % PP) (ey : y = G * H % PP) (ez : z = F * G % PP) (et : t = E * H % PP) : RN x y z t (J04 p q) := by
  have k := Z8g (A := fp A) (B := fp B) (C := fp C) (D := fp D) r1.on r2.on r1.rc r2.rc (by rw [eA, J1b, e1, e2, J77, J77]) (by rw [eB, J1b, e3, e4, J42, J42])
    (by rw [eC, J1b, e5, J1b, Y1w]) (by rw [eD, J1b, e6, J42])
  refine ⟨ex ▸ J2w _, ey ▸ J2w _, ez ▸ J2w _, et ▸ J2w _, J83 r1.on r2.on, ?_⟩
  rw [ex, ey, ez, et, J1b, J1b, J1b, J1b, eE, eF, eG, eH, J77, J77, J42, J42]
  exact k
theorem Q3h {A B c C H S q E G F x y z t : Nat} (r : RN X Y Z T a) (eA : A = X * X % PP) (eB : B = Y * Y % PP) (e1 : c = Z * Z % PP) (eC : C = (c + c) % PP) (eH : H = (A + B) % PP) (eS : S = (X + Y) % PP) (e2 : q = S * S % PP)
    (eE : E = (H + (PP - q % PP)) % PP) (eG : G = (A + (PP - B % PP)) % PP) (eF : F = (C + G) % PP) (ex : x = E * F % PP) (ey : y = G * H % PP) (ez : z = F * G % PP) (et : t = E * H % PP) : RN x y z t (J04 a a) := by
  have k := Z0j (A := fp A) (B := fp B) (C := fp C) (E := fp E) (G := fp G) (H := fp H) (F := fp F) r.on r.rc (by rw [eA, J1b]) (by rw [eB, J1b]) (by rw [eC, J42, e1, J1b]) (by rw [eH, J42])
    (by rw [eE, J77, e2, J1b, eS, J42]) (by rw [eG, J77]) (by rw [eF, J42])
  refine ⟨ex ▸ J2w _, ey ▸ J2w _, ez ▸ J2w _, et ▸ J2w _, J83 r.on r.on, ?_⟩
  rw [ex, ey, ez, et, J1b, J1b, J1b, J1b]
  exact k
theorem Z83 {x t : Nat} (r : RN X Y Z T a) (ex : x = (PP - X % PP) % PP) (et : t = (PP - T % PP) % PP) : RN x Y Z t (J32 a) := by
  refine ⟨ex ▸ J2w _, r.y, r.z, et ▸ J2w _, Q2m r.on, ?_⟩
  obtain ⟨h1, h2, h3, h4⟩ := r.rc
  rw [ex, et, Q6j, Q6j]
  refine ⟨h1, ?_, h3, ?_⟩
  · show -fp X = -a.1 * fp Z
    rw [h2]; grind
  · show -fp T = -a.1 * a.2 * fp Z
    rw [h4]; grind
theorem Q3g {t : Nat} (hX : X < PP) (hY : Y < PP) (on : OnC (fp X, fp Y)) (et : t = X * Y % PP) : RN X Y 1 t (fp X, fp Y) := by
  refine ⟨hX, hY, by decide, et ▸ J2w _, on, ?_⟩
  rw [et, J1b, J8o]
  refine ⟨by decide +kernel, ?_, ?_, ?_⟩
  · show fp X = fp X * 1
    grind
  · show fp Y = fp Y * 1
    grind
  · show fp X * fp Y = fp X * fp Y * 1
    grind
theorem Q06 {X1 Y1 Z1 X2 Y2 Z2 m1 m2 m3 m4 : Nat} {p q : Pr} (r1 : RD X1 Y1 Z1 p) (r2 : RD X2 Y2 Z2 q) (e1 : m1 = X1 * Z2 % PP) (e2 : m2 = X2 * Z1 % PP) (e3 : m3 = Y1 * Z2 % PP) (e4 : m4 = Y2 * Z1 % PP) : (m1 = m2 ∧ m3 = m4) ↔ p = q := by
  rw [← Z4d r1.rr r2.rr, ← J0j, ← J0j, ← J0j, ← J0j, fp_eq, fp_eq, ← e1, ← e2, ← e3, ← e4]
theorem Z07 {i x y : Nat} (r : RD X Y Z a) (ei : i = pw Z (PP - 2)) (ex : x = X * i % PP) (ey : y = Y * i % PP) : x = a.1.val ∧ y = a.2.val := by
  have k := Z8h r.rr
  have hi : fp i = J3o (fp Z) := by
    rw [ei, Y1p]
    show _ = fp ((fp Z).val ^ (PP - 2))
    rw [Q2i, Nat.mod_eq_of_lt r.z]
  rw [← hi, ← J0j, ← J0j] at k
  rw [ex, ey]
  exact ⟨congrArg Fin.val k.1, congrArg Fin.val k.2⟩
end
theorem Z8k {w W : World} (h : GI w) (e : Ext w W) : GI W := Rd.ext (show Rd w 8 J3y from h) e
structure Kn where
  d : Prop
  b : Prop
  c : Prop
  r : Prop
abbrev GE (kn : Kn) (w : World) : Prop := GF w ∧ (kn.c → GI w) ∧ (kn.c → Rd w 1 (c4 DD)) ∧ (kn.d → Rd w 5 (c4 D2)) ∧ (kn.b → Rd w 3 (c4 BX)) ∧ (kn.b → Rd w 4 (c4 BY))
theorem J3 {kn : Kn} {w W : World} (h : GE kn w) (k : Ext w W) : GE kn W := ⟨Q1 h.1 k, fun x => Z8k (h.2.1 x) k, fun x => (h.2.2.1 x).ext k, fun x => (h.2.2.2.1 x).ext k, fun x => (h.2.2.2.2.1 x).ext k, fun x => (h.2.2.2.2.2 x).ext k⟩
end Go.Proofs.YtefpoollmbmkfaaDoor

namespace Go.Proofs.YtefpoollmbmkfaaDoor
set_option maxRecDepth 100000
open Go.RowKit

theorem Z0n : ∀ a, a < 256 → a &&& 128 = if 128 ≤ a then 128 else 0 := by decide +kernel
theorem Y1x : ∀ a, a < 128 → a ||| 128 = a + 128 := by decide +kernel
theorem Z4i : ∀ a, a < 256 → a &&& (255 - 128) = a % 128 := by decide +kernel
section
variable {P : Program} {w : World} {o : Oper} {a : Act} {x y : Operand} {t t' : TypeId} {p q r : Int}
theorem J5d (h : bits .and .u8 p q = r) (ho : o.op = .binOp .and t x y t') (hx : a.eval x = .int .u8 p) (hy : a.eval y = .int .u8 q) : (execOp a.eval o).run P w = .ok (.value (.int .u8 r)) w := by
  subst h; simp only [execOp, ho, hx, hy]; rfl
theorem Z48 (h : bits .or .u8 p q = r) (ho : o.op = .binOp .or t x y t') (hx : a.eval x = .int .u8 p) (hy : a.eval y = .int .u8 q) : (execOp a.eval o).run P w = .ok (.value (.int .u8 r)) w := by
  subst h; simp only [execOp, ho, hx, hy]; rfl
theorem J75 (h : bits .andNot .u8 p q = r) (ho : o.op = .binOp .andNot t x y t') (hx : a.eval x = .int .u8 p) (hy : a.eval y = .int .u8 q) : (execOp a.eval o).run P w = .ok (.value (.int .u8 r)) w := by
  subst h; simp only [execOp, ho, hx, hy]; rfl
end
theorem Q3p {V : Nat} (hV : V < 2 ^ 256) : Q0 V 31 = ((V / 2 ^ 248 : Nat) : Int) ∧ V / 2 ^ 248 < 256 := by
  have h : V / 2 ^ 248 < 256 := Nat.div_lt_of_lt_mul (by rw [← show (2 : Nat) ^ 256 = 2 ^ 248 * 256 by decide]; exact hV)
  unfold Q0
  rw [show 8 * 31 = 248 by decide, Nat.mod_eq_of_lt h]
  exact ⟨rfl, h⟩
theorem Q6k (V : Nat) : top V = true ↔ 128 ≤ V / 2 ^ 248 := by
  unfold top
  rw [decide_eq_true_iff]
  generalize hP : (2 : Nat) ^ 248 = P
  have e : (2 : Nat) ^ 255 = 128 * P := by rw [← hP]
  rw [e, Nat.le_div_iff_mul_le (by subst hP; decide)]
theorem Q6a {V : Nat} (hV : V < 2 ^ 256) (ht : top V = true) : bits .and .u8 (Q0 V 31) 128 = 128 := by
  obtain ⟨h1, h2⟩ := Q3p hV
  rw [h1]
  refine (u8_and_nat _ 128 h2 (by decide)).trans ?_
  rw [Z0n _ h2, if_pos ((Q6k V).1 ht)]; rfl
theorem Q6c {V : Nat} (hV : V < 2 ^ 256) (ht : ¬ top V = true) : bits .and .u8 (Q0 V 31) 128 = 0 := by
  obtain ⟨h1, h2⟩ := Q3p hV
  rw [h1]
  refine (u8_and_nat _ 128 h2 (by decide)).trans ?_
  rw [Z0n _ h2, if_neg fun h => ht ((Q6k V).2 h)]; rfl
theorem Q6l {V j : Nat} (hj : j < 31) : Q0 (V % 2 ^ 255) j = Q0 V j := by
  unfold Q0
  congr 1
  obtain ⟨d, hd⟩ : ∃ d, 255 = 8 * j + (8 + d) := ⟨247 - 8 * j, by omega⟩
  rw [hd, Nat.pow_add 2 (8 * j), Nat.mod_mul_right_div_self, Nat.pow_add 2 8 d, Nat.mod_mul_right_mod]
theorem Z4j (V : Nat) : Q0 (V % 2 ^ 255) 31 = ((V / 2 ^ 248 % 128 : Nat) : Int) := by
  unfold Q0
  congr 1
  rw [show 8 * 31 = 248 by decide, show (2 : Nat) ^ 255 = 2 ^ 248 * 128 by decide, Nat.mod_mul_right_div_self]
  omega
theorem Q6b {V : Nat} {r : Int} (hr : r = ((V / 2 ^ 248 % 128 : Nat) : Int)) : J2 .u8 32 (upd (Q0 V) 31 r) = J2 .u8 32 (Q0 (V % 2 ^ 255)) := by
  apply J00
  intro j hj
  by_cases h : j = 31
  · subst h; rw [J2d, Z4j]; exact hr
  · rw [J0m _ _ _ _ h, Q6l (by omega)]
theorem J9k {V : Nat} (hV : V < 2 ^ 256) : bits .andNot .u8 (Q0 V 31) 128 = ((V / 2 ^ 248 % 128 : Nat) : Int) := by
  obtain ⟨h1, h2⟩ := Q3p hV
  rw [h1]
  refine (u8_andNot_nat _ 128 h2 (by decide)).trans ?_
  rw [Z4i _ h2]
theorem Z4k {V : Nat} (hV : V < 2 ^ 255) : bits .or .u8 (Q0 V 31) 128 = Q0 (V + 2 ^ 255) 31 := by
  obtain ⟨h1, h2⟩ := Q3p (V := V) (Nat.lt_trans hV (by decide))
  obtain ⟨h3, h4⟩ := Q3p (V := V + 2 ^ 255) (by omega)
  have h5 : V / 2 ^ 248 < 128 := Nat.div_lt_of_lt_mul (by rw [← show (2 : Nat) ^ 255 = 2 ^ 248 * 128 by decide]; exact hV)
  rw [h1, h3]
  refine (u8_or_nat _ 128 h2 (by decide)).trans ?_
  rw [Y1x _ h5, show (2 : Nat) ^ 255 = 2 ^ 248 * 128 by decide, Nat.add_mul_div_left _ _ (by decide)]
theorem Y1b {V : Nat} (hV : V < 2 ^ 255) : J2 .u8 32 (upd (Q0 V) 31 (bits .or .u8 (Q0 V 31) 128)) = J2 .u8 32 (Q0 (V + 2 ^ 255)) := by
  apply J00
  intro j hj
  by_cases h : j = 31
  · subst h; rw [J2d, Z4k hV]
  · rw [J0m _ _ _ _ h, ← Q6l (V := V + 2 ^ 255) (by omega), Nat.add_mod_right, Nat.mod_eq_of_lt hV]
theorem J2f (A : Nat) : ∀ n, J0c (Q0 A) n = A % 2 ^ (8 * n)
  | 0 => by rw [Nat.mul_zero, Nat.pow_zero, Nat.mod_one]; rfl
  | n + 1 => by
    show J0c (Q0 A) n + (Q0 A n).toNat * 2 ^ (8 * n) = _
    rw [J2f A n, Nat.mul_add, Nat.pow_add, Nat.mod_mul, Nat.mul_comm (Q0 A n).toNat]
    rfl
theorem Z4l {A B : Nat} (hA : A < 2 ^ 256) (hB : B < 2 ^ 256) (h : ∀ j, j < 32 → Q0 A j = Q0 B j) : A = B := by
  have key : ∀ n, n ≤ 32 → J0c (Q0 A) n = J0c (Q0 B) n := by
    intro n
    induction n with
    | zero => intro _; rfl
    | succ n ih => intro hn; show J0c (Q0 A) n + (Q0 A n).toNat * _ = J0c (Q0 B) n + (Q0 B n).toNat * _; rw [ih (by omega), h n (by omega)]
  have := key 32 (by omega)
  rw [J2f, J2f] at this
  rwa [show 8 * 32 = 256 by decide, Nat.mod_eq_of_lt hA, Nat.mod_eq_of_lt hB] at this
theorem Z6p (A B : Nat) (hA : A < 2 ^ 256) (hB : B < 2 ^ 256) (w : World) : (Op.equalIn 10000 22 (.agg (J2 .u8 32 (Q0 A))) (.agg (J2 .u8 32 (Q0 B)))).run Tryd.prog w = .ok (decide (A = B)) w := by
  have h := J3u (P := Tryd.prog) w 9998 22 5 32 .u8 (J2 .u8 32 (Q0 A)) (J2 .u8 32 (Q0 B)) (Q0 A) (Q0 B) Tryd.underlying22 Tryd.underlying5 (by kernel_rfl)
    (fun i hi => J9 _ _ _ _ hi) (fun i hi => J9 _ _ _ _ hi)
  rw [h]
  congr 1
  rw [Bool.eq_iff_iff, J7m, decide_eq_true_iff]
  exact ⟨Z4l hA hB, fun h => by subst h; intro _ _; rfl⟩
def lb (n V : Nat) : List UInt8 := (List.range n).map fun j => UInt8.ofNat (V / 2 ^ (8 * j) % 256)
theorem Z7 (n V : Nat) : (lb n V).length = n := by simp [lb]
theorem Z8l {n V j : Nat} (hj : j < n) : (lb n V)[j]? = some (UInt8.ofNat (V / 2 ^ (8 * j) % 256)) := by simp [lb, hj]
theorem Z0o (V j : Nat) : ((UInt8.ofNat (V / 2 ^ (8 * j) % 256)).toNat : Int) = Q0 V j := by
  unfold Q0
  rw [UInt8.toNat_ofNat', Nat.mod_mod]
theorem Q4t (n V : Nat) : bs8 (lb n V) = J9h .u8 n (Q0 V) := by
  unfold bs8 lb J9h
  rw [List.map_map]
  apply List.map_congr_left
  intro j _
  simp only [Function.comp, Z0o]
theorem J5f (n : Nat) (f : Nat → Int) : (J2 .u8 n f).toList = J9h .u8 n f := rfl
end Go.Proofs.YtefpoollmbmkfaaDoor

namespace Go.Proofs.YtefpoollmbmkfaaDoor
set_option maxRecDepth 100000
open Go.RowKit
section
variable {w : World} {o : Oper} {a : Act} {x y : Operand} {t t' : TypeId}
end
section
variable {ops : Array Oper} {w : World} {r : List Oper} {o : Oper} {a : Act} {E : Act → Prop}
end
def le : List UInt8 → Nat
  | [] => 0
  | x :: r => x.toNat + 256 * le r
theorem Z0p : ∀ l : List UInt8, le l < 2 ^ (8 * l.length)
  | [] => by decide
  | x :: r => by
    have h := Z0p r
    have hx := x.toNat_lt
    show x.toNat + 256 * le r < 2 ^ (8 * (r.length + 1))
    rw [Nat.mul_add, Nat.pow_add]
    omega
theorem J78 (n V : Nat) : lb (n + 1) V = UInt8.ofNat (V % 256) :: lb n (V / 256) := by
  unfold lb
  rw [List.range_succ_eq_map, List.map_cons, List.map_map]
  congr 1
  · rw [Nat.mul_zero, Nat.pow_zero, Nat.div_one]
  · apply List.map_congr_left
    intro j _
    simp only [Function.comp]
    rw [Nat.div_div_eq_div_mul, Nat.succ_eq_add_one, Nat.mul_add, Nat.pow_add, Nat.mul_comm (2 ^ (8 * j))]
theorem Q6m : ∀ n V : Nat, V < 2 ^ (8 * n) → le (lb n V) = V
  | 0, V, h => by
    have : V < 1 := h
    obtain rfl : V = 0 := by omega
    rfl
  | n + 1, V, h => by
    rw [J78]
    show (UInt8.ofNat (V % 256)).toNat + 256 * le (lb n (V / 256)) = V
    rw [Nat.mul_add, Nat.pow_add] at h
    rw [Q6m n (V / 256) (by omega), UInt8.toNat_ofNat']
    omega
end Go.Proofs.YtefpoollmbmkfaaDoor
