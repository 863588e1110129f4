/- Points as cells, and what the numbers of the code and of the document tell of points. No conditions. The highest bit of 32 bytes; '==' of 32 bytes; texts of numbers' bytes. No conditions. Texts and bytes, by index; a byte turned in a row of bytes; numbers of the bytes of a text. No conditions. -/
import Derived.Test.YtefpoollmbmkfaaDoorEg
import Derived.Test.YtefpoollmbmkfaaDoorGc
import Derived.Test.YtefpoollmbmkfaaDoorEb
import Derived.Test.YtefpoollmbmkfaaDoorEe
import Derived.Laws.BitsAllLaws
set_option linter.unusedSimpArgs false
set_option linter.unusedVariables false
namespace Go.Proofs.YtefpoollmbmkfaaDoor
set_option maxRecDepth 100000
open Go.RowKit

def D2 : Nat := 16295367250680780974490674513165176452449235426866156013048779062215315747161
def BX : Nat := 15112221349535400772501151409588531511454012693041857206046113283949847762202
def BY : Nat := 46316835694926478169428394003475163141307993866256225615783033603165251855960
def BP : Pr := (fp BX, fp BY)
theorem Q0q : OnC BP := by unfold OnC; decide +kernel
theorem V25 : fp D2 = 2 * dd := by decide +kernel
theorem Q9k : DD < Z0 := by decide
theorem V1i : D2 < Z0 := by decide
theorem Q8 {A : Nat} (h : A < PP) : A < Z0 := Nat.lt_trans h (by decide)
theorem J2z (A : Nat) : A % PP < PP := Nat.mod_lt _ J6f
theorem bpp {X n : Nat} (h : X = n % PP) : X < PP := h ▸ J2z n
def p4 (X Y Z T : Nat) : Array Value := c4 X ++ c4 Y ++ c4 Z ++ c4 T
def p3 (X Y Z : Nat) : Array Value := J1 .i64 16 (Q2 X) ++ J1 .i64 16 (Q2 Y) ++ J1 .i64 16 (Q2 Z)
section
variable {X Y Z T : Nat}
theorem Q0n : ∀ i v, (c4 X)[i]? = some v → (p4 X Y Z T)[0 + i]? = some v := fun i v h => by rw [Nat.zero_add]; exact J5f (J5f (J5f h))
theorem Q2h : ∀ i v, (c4 Y)[i]? = some v → (p4 X Y Z T)[4 + i]? = some v := fun i v h => J5f (J5f (Q0r rfl h))
theorem J8n : ∀ i v, (c4 Z)[i]? = some v → (p4 X Y Z T)[8 + i]? = some v := fun i v h => J5f (Q0r rfl h)
theorem Y7w : ∀ i v, (c4 T)[i]? = some v → (p4 X Y Z T)[12 + i]? = some v := fun i v h => Q0r rfl h
theorem s16 {f : Nat → Int} : (J1 .i64 16 f).size = 16 := Q1 _ _ _
theorem Q3u : ∀ i v, (J1 .i64 16 (Q2 X))[i]? = some v → (p3 X Y Z)[0 + i]? = some v := fun i v h => by rw [Nat.zero_add]; exact J5f (J5f h)
theorem Q6e : ∀ i v, (J1 .i64 16 (Q2 Y))[i]? = some v → (p3 X Y Z)[16 + i]? = some v := fun i v h => J5f (Q0r s16 h)
theorem Q1q : ∀ i v, (J1 .i64 16 (Q2 Z))[i]? = some v → (p3 X Y Z)[32 + i]? = some v := fun i v h => Q0r (by rw [Array.size_append, s16, s16]) h
theorem J3 : (p3 X Y Z).size = 48 := by unfold p3; rw [Array.size_append, Array.size_append, s16, s16, s16]
theorem J0c : (p3 X Y Z).all (·.oneCell') = true := by
  unfold p3
  rw [Array.all_append, Array.all_append, Y7, Y7, Y7]; rfl
end
structure RN (X Y Z T : Nat) (a : Pr) : Prop where
  x : X < PP
  y : Y < PP
  z : Z < PP
  t : T < PP
  on : OnC a
  rc : Rc (fp X) (fp Y) (fp Z) (fp T) a
def RW (X Y Z T : Nat) (a : Pr) : Prop := RN X Y Z T a ∨ (X = 0 ∧ Y = 0 ∧ Z = 0 ∧ T = 0 ∧ a = p0)
structure RD (X Y Z : Nat) (a : Pr) : Prop where
  x : X < PP
  y : Y < PP
  z : Z < PP
  on : OnC a
  rr : Rr (fp X) (fp Y) (fp Z) a
section
variable {X Y Z T : Nat} {a : Pr}
theorem RN.rw (h : RN X Y Z T a) : RW X Y Z T a := .inl h
theorem RW.on (h : RW X Y Z T a) : OnC a := by
  rcases h with h | h
  · exact h.on
  · rw [h.2.2.2.2]; exact Z8t
theorem Q0c : RW 0 0 0 0 p0 := .inr ⟨rfl, rfl, rfl, rfl, rfl⟩
theorem RW.x (h : RW X Y Z T a) : X < Z0 := by
  rcases h with h | h
  · exact Q8 h.x
  · rw [h.1]; decide
theorem RW.y (h : RW X Y Z T a) : Y < Z0 := by
  rcases h with h | h
  · exact Q8 h.y
  · rw [h.2.1]; decide
theorem RW.z (h : RW X Y Z T a) : Z < Z0 := by
  rcases h with h | h
  · exact Q8 h.z
  · rw [h.2.2.1]; decide
theorem RW.t (h : RW X Y Z T a) : T < Z0 := by
  rcases h with h | h
  · exact Q8 h.t
  · rw [h.2.2.2.1]; decide
theorem RN.nz (h : RN X Y Z T a) : Z ≠ 0 := fun e => h.rc.1 (by rw [e]; rfl)
theorem RW.cases (h : RW X Y Z T a) : (Z ≠ 0 ∧ RN X Y Z T a) ∨ (Z = 0 ∧ a = p0) := by
  rcases h with h | h
  · exact .inl ⟨h.nz, h⟩
  · exact .inr ⟨h.2.2.1, h.2.2.2.2⟩
theorem rn_p0 : RN 0 1 1 0 p0 := ⟨by decide, by decide, by decide, by decide, Z8t, by
  refine ⟨by decide +kernel, ?_, ?_, ?_⟩ <;> decide +kernel⟩
theorem RN.rr (h : RN X Y Z T a) : RD X Y Z a := ⟨h.x, h.y, h.z, h.on, h.rc.rr⟩
theorem Q0f (A B : Nat) : fp ((A + (PP - B % PP)) % PP) = fp A - fp B := by rw [J1i, Q13, J9s]; grind
theorem J41 (A B : Nat) : fp ((A + B) % PP) = fp A + fp B := by rw [J1i, Q13]
theorem J0y (A B : Nat) : fp (A * B % PP) = fp A * fp B := by rw [J1i, J1s]
theorem Q8h (A : Nat) : fp ((PP - A % PP) % PP) = - fp A := by rw [J1i, J9s]
theorem Z7z {X1 Y1 Z1 T1 X2 Y2 Z2 T2 s1 s2 A a1 a2 B m C zz D E F G H x y z t : Nat} {p q : Pr} (r1 : RN X1 Y1 Z1 T1 p) (r2 : RN X2 Y2 Z2 T2 q)
    (e1 : s1 = (Y1 + (PP - X1 % PP)) % PP) (e2 : s2 = (Y2 + (PP - X2 % PP)) % PP) (eA : A = s1 * s2 % PP) (e3 : a1 = (Y1 + X1) % PP) (e4 : a2 = (Y2 + X2) % PP) (eB : B = a1 * a2 % PP)
    (e5 : m = T1 * D2 % PP) (eC : C = m * T2 % PP) (e6 : zz = (Z1 + Z1) % PP) (eD : D = zz * Z2 % PP) (eE : E = (B + (PP - A % PP)) % PP) (eF : F = (D + (PP - C % PP)) % PP) (eG : G = (D + C) % PP) (eH : H = (B + A) % PP)
    (ex : x = E * F % PP) (ey : y = G * H % PP) (ez : z = F * G % PP) (et : t = E * H % PP) : RN x y z t (J14 p q) := by
  have k := Y8i (A := fp A) (B := fp B) (C := fp C) (D := fp D) r1.on r2.on r1.rc r2.rc (by rw [eA, J0y, e1, e2, Q0f, Q0f]) (by rw [eB, J0y, e3, e4, J41, J41])
    (by rw [eC, J0y, e5, J0y, V25]) (by rw [eD, J0y, e6, J41])
  refine ⟨ex ▸ J2z _, ey ▸ J2z _, ez ▸ J2z _, et ▸ J2z _, Q0e r1.on r2.on, ?_⟩
  rw [ex, ey, ez, et, J0y, J0y, J0y, J0y, eE, eF, eG, eH, Q0f, Q0f, J41, J41]
  exact k
theorem Q9j {A B c C H S q E G F x y z t : Nat} (r : RN X Y Z T a) (eA : A = X * X % PP) (eB : B = Y * Y % PP) (e1 : c = Z * Z % PP) (eC : C = (c + c) % PP) (eH : H = (A + B) % PP) (eS : S = (X + Y) % PP) (e2 : q = S * S % PP)
    (eE : E = (H + (PP - q % PP)) % PP) (eG : G = (A + (PP - B % PP)) % PP) (eF : F = (C + G) % PP) (ex : x = E * F % PP) (ey : y = G * H % PP) (ez : z = F * G % PP) (et : t = E * H % PP) : RN x y z t (J14 a a) := by
  have k := Z8v (A := fp A) (B := fp B) (C := fp C) (E := fp E) (G := fp G) (H := fp H) (F := fp F) r.on r.rc (by rw [eA, J0y]) (by rw [eB, J0y]) (by rw [eC, J41, e1, J0y]) (by rw [eH, J41])
    (by rw [eE, Q0f, e2, J0y, eS, J41]) (by rw [eG, Q0f]) (by rw [eF, J41])
  refine ⟨ex ▸ J2z _, ey ▸ J2z _, ez ▸ J2z _, et ▸ J2z _, Q0e r.on r.on, ?_⟩
  rw [ex, ey, ez, et, J0y, J0y, J0y, J0y]
  exact k
theorem Y7x {x t : Nat} (r : RN X Y Z T a) (ex : x = (PP - X % PP) % PP) (et : t = (PP - T % PP) % PP) : RN x Y Z t (J4d a) := by
  refine ⟨ex ▸ J2z _, r.y, r.z, et ▸ J2z _, Q45 r.on, ?_⟩
  obtain ⟨h1, h2, h3, h4⟩ := r.rc
  rw [ex, et, Q8h, Q8h]
  refine ⟨h1, ?_, h3, ?_⟩
  · show -fp X = -a.1 * fp Z
    rw [h2]; grind
  · show -fp T = -a.1 * a.2 * fp Z
    rw [h4]; grind
theorem Q6m {t : Nat} (hX : X < PP) (hY : Y < PP) (on : OnC (fp X, fp Y)) (et : t = X * Y % PP) : RN X Y 1 t (fp X, fp Y) := by
  refine ⟨hX, hY, by decide, et ▸ J2z _, on, ?_⟩
  rw [et, J0y, Q2s]
  refine ⟨by decide +kernel, ?_, ?_, ?_⟩
  · show fp X = fp X * 1
    grind
  · show fp Y = fp Y * 1
    grind
  · show fp X * fp Y = fp X * fp Y * 1
    grind
theorem Y88 {X1 Y1 Z1 X2 Y2 Z2 A B C D q E F G s1 s2 S af cd u x ag y z : Nat} {p q' : Pr} (r1 : RD X1 Y1 Z1 p) (r2 : RD X2 Y2 Z2 q')
    (eA : A = Z1 * Z2 % PP) (eB : B = A * A % PP) (eC : C = X1 * X2 % PP) (eD : D = Y1 * Y2 % PP) (e1 : q = C * D % PP) (eE : E = DD * q % PP) (eF : F = (B + (PP - E) % PP) % PP) (eG : G = (B + E) % PP)
    (e2 : s1 = (X1 + Y1) % PP) (e3 : s2 = (X2 + Y2) % PP) (eS : S = s1 * s2 % PP) (e4 : af = A * F % PP) (e5 : cd = (C + D) % PP) (e6 : u = (S + (PP - cd) % PP) % PP) (ex : x = af * u % PP) (e7 : ag = A * G % PP) (ey : y = ag * cd % PP) (ez : z = F * G % PP) : RD x y z (J14 p q') := by
  have hE : E % PP = E := Nat.mod_eq_of_lt (eE ▸ J2z _)
  have hc : cd % PP = cd := Nat.mod_eq_of_lt (e5 ▸ J2z _)
  rw [← hE] at eF
  rw [← hc] at e6
  have fs : ∀ U V : Nat, fp ((U + (PP - V % PP) % PP) % PP) = fp U - fp V := fun U V => by rw [J1i, Q13, J1i, J9s]; grind
  have k := Y8j (A := fp A) (B := fp B) (C := fp C) (D := fp D) (E := fp E) (F := fp F) (G := fp G) (S := fp S) r1.on r2.on r1.rr r2.rr (by rw [eA, J0y]) (by rw [eB, J0y]) (by rw [eC, J0y]) (by rw [eD, J0y])
    (by rw [eE, J0y, e1, J0y]; rfl) (by rw [eF, fs]) (by rw [eG, J41]) (by rw [eS, J0y, e2, e3, J41, J41])
  refine ⟨ex ▸ J2z _, ey ▸ J2z _, ez ▸ J2z _, Q0e r1.on r2.on, ?_⟩
  rw [ex, ey, ez, J0y, J0y, J0y, e4, e6, e7, J0y, fs, J0y, e5, J41]
  exact k
theorem Y87 {x : Nat} (r : RD X Y Z a) (ex : x = (PP - X) % PP) : RD x Y Z (J4d a) := by
  have hx : X % PP = X := Nat.mod_eq_of_lt r.x
  rw [← hx] at ex
  refine ⟨ex ▸ J2z _, r.y, r.z, Q45 r.on, ?_⟩
  obtain ⟨h1, h2, h3⟩ := r.rr
  rw [ex, Q8h]
  refine ⟨h1, ?_, h3⟩
  show -fp X = -a.1 * fp Z
  rw [h2]; grind
theorem Z8a (hX : X < PP) (hY : Y < PP) (on : OnC (fp X, fp Y)) : RD X Y 1 (fp X, fp Y) := (Q6m hX hY on rfl).rr
theorem Q56 {X1 Y1 Z1 X2 Y2 Z2 m1 m2 m3 m4 : Nat} {p q : Pr} (r1 : RD X1 Y1 Z1 p) (r2 : RD X2 Y2 Z2 q) (e1 : m1 = X1 * Z2 % PP) (e2 : m2 = X2 * Z1 % PP) (e3 : m3 = Y1 * Z2 % PP) (e4 : m4 = Y2 * Z1 % PP) : (m1 = m2 ∧ m3 = m4) ↔ p = q := by
  rw [← Y3u r1.rr r2.rr, ← J1s, ← J1s, ← J1s, ← J1s, fp_eq, fp_eq, ← e1, ← e2, ← e3, ← e4]
theorem Q85 {i x y : Nat} (r : RD X Y Z a) (ei : i = pw Z (PP - 2)) (ex : x = X * i % PP) (ey : y = Y * i % PP) : x = a.1.val ∧ y = a.2.val := by
  have k := Y8k r.rr
  have hi : fp i = J5b (fp Z) := by
    rw [ei, V1y]
    show _ = fp ((fp Z).val ^ (PP - 2))
    rw [Q8b, Nat.mod_eq_of_lt r.z]
  rw [← hi, ← J1s, ← J1s] at k
  rw [ex, ey]
  exact ⟨congrArg Fin.val k.1, congrArg Fin.val k.2⟩
end
theorem Y8n {w W : World} (h : GI w) (e : Ext w W) : GI W := Rd.ext (show Rd w 8 J6i from h) e
structure Kn where
  d : Prop
  b : Prop
  c : Prop
  r : Prop
abbrev GE (kn : Kn) (w : World) : Prop := GF w ∧ (kn.c → GI w) ∧ (kn.c → Rd w 1 (c4 DD)) ∧ (kn.d → Rd w 5 (c4 D2)) ∧ (kn.b → Rd w 3 (c4 BX)) ∧ (kn.b → Rd w 4 (c4 BY))
theorem J7 {kn : Kn} {w W : World} (h : GE kn w) (k : Ext w W) : GE kn W := ⟨Z8 h.1 k, fun x => Y8n (h.2.1 x) k, fun x => (h.2.2.1 x).ext k, fun x => (h.2.2.2.1 x).ext k, fun x => (h.2.2.2.2.1 x).ext k, fun x => (h.2.2.2.2.2 x).ext k⟩
end Go.Proofs.YtefpoollmbmkfaaDoor

namespace Go.Proofs.YtefpoollmbmkfaaDoor
set_option maxRecDepth 100000
open Go.RowKit

theorem Z8z : ∀ a, a < 256 → a &&& 128 = if 128 ≤ a then 128 else 0 := by decide +kernel
theorem V26 : ∀ a, a < 128 → a ||| 128 = a + 128 := by decide +kernel
theorem Y3z : ∀ a, a < 256 → a &&& (255 - 128) = a % 128 := by decide +kernel
theorem Y8o : ∀ a, a < 256 → a &&& 127 = a % 128 := by decide +kernel
section
variable {P : Program} {w : World} {o : Oper} {a : Act} {x y : Operand} {t t' : TypeId} {p q r : Int}
theorem J4f (h : bits .and .u8 p q = r) (ho : o.op = .binOp .and t x y t') (hx : a.eval x = .int .u8 p) (hy : a.eval y = .int .u8 q) : (execOp a.eval o).run P w = .ok (.value (.int .u8 r)) w := by
  subst h; simp only [execOp, ho, hx, hy]; rfl
theorem Z3a (h : bits .or .u8 p q = r) (ho : o.op = .binOp .or t x y t') (hx : a.eval x = .int .u8 p) (hy : a.eval y = .int .u8 q) : (execOp a.eval o).run P w = .ok (.value (.int .u8 r)) w := by
  subst h; simp only [execOp, ho, hx, hy]; rfl
theorem Q0b (h : bits .andNot .u8 p q = r) (ho : o.op = .binOp .andNot t x y t') (hx : a.eval x = .int .u8 p) (hy : a.eval y = .int .u8 q) : (execOp a.eval o).run P w = .ok (.value (.int .u8 r)) w := by
  subst h; simp only [execOp, ho, hx, hy]; rfl
end
theorem Q59 {V : Nat} (hV : V < 2 ^ 256) : Q6 V 31 = ((V / 2 ^ 248 : Nat) : Int) ∧ V / 2 ^ 248 < 256 := by
  have h : V / 2 ^ 248 < 256 := Nat.div_lt_of_lt_mul (by rw [← show (2 : Nat) ^ 256 = 2 ^ 248 * 256 by decide]; exact hV)
  unfold Q6
  rw [show 8 * 31 = 248 by decide, Nat.mod_eq_of_lt h]
  exact ⟨rfl, h⟩
theorem Q88 (V : Nat) : top V = true ↔ 128 ≤ V / 2 ^ 248 := by
  unfold top
  rw [decide_eq_true_iff]
  generalize hP : (2 : Nat) ^ 248 = P
  have e : (2 : Nat) ^ 255 = 128 * P := by rw [← hP]
  rw [e, Nat.le_div_iff_mul_le (by subst hP; decide)]
theorem Z3c {V : Nat} (hV : V < 2 ^ 256) (ht : top V = true) : bits .and .u8 (Q6 V 31) 128 = 128 := by
  obtain ⟨h1, h2⟩ := Q59 hV
  rw [h1]
  refine (u8_and_nat _ 128 h2 (by decide)).trans ?_
  rw [Z8z _ h2, if_pos ((Q88 V).1 ht)]; rfl
theorem Z3d {V : Nat} (hV : V < 2 ^ 256) (ht : ¬ top V = true) : bits .and .u8 (Q6 V 31) 128 = 0 := by
  obtain ⟨h1, h2⟩ := Q59 hV
  rw [h1]
  refine (u8_and_nat _ 128 h2 (by decide)).trans ?_
  rw [Z8z _ h2, if_neg fun h => ht ((Q88 V).2 h)]; rfl
theorem Z3q {V j : Nat} (hj : j < 31) : Q6 (V % 2 ^ 255) j = Q6 V j := by
  unfold Q6
  congr 1
  obtain ⟨d, hd⟩ : ∃ d, 255 = 8 * j + (8 + d) := ⟨247 - 8 * j, by omega⟩
  rw [hd, Nat.pow_add 2 (8 * j), Nat.mod_mul_right_div_self, Nat.pow_add 2 8 d, Nat.mod_mul_right_mod]
theorem Y40 (V : Nat) : Q6 (V % 2 ^ 255) 31 = ((V / 2 ^ 248 % 128 : Nat) : Int) := by
  unfold Q6
  congr 1
  rw [show 8 * 31 = 248 by decide, show (2 : Nat) ^ 255 = 2 ^ 248 * 128 by decide, Nat.mod_mul_right_div_self]
  omega
theorem Q9l {V : Nat} {r : Int} (hr : r = ((V / 2 ^ 248 % 128 : Nat) : Int)) : J1 .u8 32 (upd (Q6 V) 31 r) = J1 .u8 32 (Q6 (V % 2 ^ 255)) := by
  apply J0h
  intro j hj
  by_cases h : j = 31
  · subst h; rw [J2x, Y40]; exact hr
  · rw [J1a _ _ _ _ h, Z3q (by omega)]
theorem Q42 {V : Nat} (hV : V < 2 ^ 256) : bits .andNot .u8 (Q6 V 31) 128 = ((V / 2 ^ 248 % 128 : Nat) : Int) := by
  obtain ⟨h1, h2⟩ := Q59 hV
  rw [h1]
  refine (u8_andNot_nat _ 128 h2 (by decide)).trans ?_
  rw [Y3z _ h2]
theorem Z86 {V : Nat} (hV : V < 2 ^ 256) : bits .and .u8 (Q6 V 31) 127 = ((V / 2 ^ 248 % 128 : Nat) : Int) := by
  obtain ⟨h1, h2⟩ := Q59 hV
  rw [h1]
  refine (u8_and_nat _ 127 h2 (by decide)).trans ?_
  rw [Y8o _ h2]
theorem Y41 {V : Nat} (hV : V < 2 ^ 255) : bits .or .u8 (Q6 V 31) 128 = Q6 (V + 2 ^ 255) 31 := by
  obtain ⟨h1, h2⟩ := Q59 (V := V) (Nat.lt_trans hV (by decide))
  obtain ⟨h3, h4⟩ := Q59 (V := V + 2 ^ 255) (by omega)
  have h5 : V / 2 ^ 248 < 128 := Nat.div_lt_of_lt_mul (by rw [← show (2 : Nat) ^ 255 = 2 ^ 248 * 128 by decide]; exact hV)
  rw [h1, h3]
  refine (u8_or_nat _ 128 h2 (by decide)).trans ?_
  rw [V26 _ h5, show (2 : Nat) ^ 255 = 2 ^ 248 * 128 by decide, Nat.add_mul_div_left _ _ (by decide)]
theorem Y6a {V : Nat} (hV : V < 2 ^ 255) : J1 .u8 32 (upd (Q6 V) 31 (bits .or .u8 (Q6 V 31) 128)) = J1 .u8 32 (Q6 (V + 2 ^ 255)) := by
  apply J0h
  intro j hj
  by_cases h : j = 31
  · subst h; rw [J2x, Y41 hV]
  · rw [J1a _ _ _ _ h, ← Z3q (V := V + 2 ^ 255) (by omega), Nat.add_mod_right, Nat.mod_eq_of_lt hV]
theorem J4e (A : Nat) : ∀ n, J1h (Q6 A) n = A % 2 ^ (8 * n)
  | 0 => by rw [Nat.mul_zero, Nat.pow_zero, Nat.mod_one]; rfl
  | n + 1 => by
    show J1h (Q6 A) n + (Q6 A n).toNat * 2 ^ (8 * n) = _
    rw [J4e A n, Nat.mul_add, Nat.pow_add, Nat.mod_mul, Nat.mul_comm (Q6 A n).toNat]
    rfl
theorem Z3r {A B : Nat} (hA : A < 2 ^ 256) (hB : B < 2 ^ 256) (h : ∀ j, j < 32 → Q6 A j = Q6 B j) : A = B := by
  have key : ∀ n, n ≤ 32 → J1h (Q6 A) n = J1h (Q6 B) n := by
    intro n
    induction n with
    | zero => intro _; rfl
    | succ n ih => intro hn; show J1h (Q6 A) n + (Q6 A n).toNat * _ = J1h (Q6 B) n + (Q6 B n).toNat * _; rw [ih (by omega), h n (by omega)]
  have := key 32 (by omega)
  rw [J4e, J4e] at this
  rwa [show 8 * 32 = 256 by decide, Nat.mod_eq_of_lt hA, Nat.mod_eq_of_lt hB] at this
theorem Y6c (A B : Nat) (hA : A < 2 ^ 256) (hB : B < 2 ^ 256) (w : World) : (Op.equalIn 10000 22 (.agg (J1 .u8 32 (Q6 A))) (.agg (J1 .u8 32 (Q6 B)))).run Tryd.prog w = .ok (decide (A = B)) w := by
  have h := J6b (P := Tryd.prog) w 9998 22 5 32 .u8 (J1 .u8 32 (Q6 A)) (J1 .u8 32 (Q6 B)) (Q6 A) (Q6 B) Tryd.underlying22 Tryd.underlying5 (by kernel_rfl)
    (fun i hi => J6 _ _ _ _ hi) (fun i hi => J6 _ _ _ _ hi)
  rw [h]
  congr 1
  rw [Bool.eq_iff_iff, Q0w, decide_eq_true_iff]
  exact ⟨Z3r hA hB, fun h => by subst h; intro _ _; rfl⟩
def lb (n V : Nat) : List UInt8 := (List.range n).map fun j => UInt8.ofNat (V / 2 ^ (8 * j) % 256)
theorem J8 (n V : Nat) : (lb n V).length = n := by simp [lb]
theorem Q8i {n V j : Nat} (hj : j < n) : (lb n V)[j]? = some (UInt8.ofNat (V / 2 ^ (8 * j) % 256)) := by simp [lb, hj]
theorem Q5m (V j : Nat) : ((UInt8.ofNat (V / 2 ^ (8 * j) % 256)).toNat : Int) = Q6 V j := by
  unfold Q6
  rw [UInt8.toNat_ofNat', Nat.mod_mod]
theorem Q43 (n V : Nat) : Q6f n (Q6 V) = str (lb n V) := by
  unfold Q6f str strOfNums lb
  congr 1
  simp only [List.map_map]
  congr 1
theorem Q2u (n V : Nat) : bs8 (lb n V) = J78 .u8 n (Q6 V) := by
  unfold bs8 lb J78
  rw [List.map_map]
  apply List.map_congr_left
  intro j _
  simp only [Function.comp, Q5m]
theorem J5k (n : Nat) (f : Nat → Int) : (J1 .u8 n f).toList = J78 .u8 n f := rfl
theorem Z87 {A B : Nat} (hA : A < 2 ^ 256) (hB : B < 2 ^ 256) (h : lb 32 A = lb 32 B) : A = B := by
  refine Z3r hA hB fun j hj => ?_
  have h1 := Q8i (V := A) hj
  rw [h, Q8i hj] at h1
  rw [← Q5m, ← Q5m, Option.some.inj h1]
end Go.Proofs.YtefpoollmbmkfaaDoor

namespace Go.Proofs.YtefpoollmbmkfaaDoor
set_option maxRecDepth 100000
open Go.RowKit
section
variable {w : World} {o : Oper} {a : Act} {x y : Operand} {t t' : TypeId}
theorem Q5e {l : List UInt8} {i : Nat} {c : UInt8} (h : l[i]? = some c) (ho : o.op = .index 9 x y) (hx : a.eval x = str l) (hy : a.eval y = .int .i64 (i : Int)) : (execOp a.eval o).run Tryd.prog w = .ok (.value (.int .u8 (c.toNat : Int))) w := by
  have hs := J7c l
  have hi := (List.getElem?_eq_some_iff.1 h).1
  have hg := (List.getElem?_eq_some_iff.1 h).2
  have hg2 : (⟨l.toArray⟩ : ByteArray)[i]'(by rw [hs]; exact hi) = c := by
    show l.toArray[i]'(by simpa using hi) = c
    simpa using hg
  simp only [execOp, ho, hx, hy, str, Sem.run_bind]
  simp [Instr.index, asIntOf, run_underlying Tryd.underlying9, hs, hi, hg2, Sem.run_bind]
theorem Q1s {n V j : Nat} (hj : j < n) (ho : o.op = .index 9 x y) (hx : a.eval x = str (lb n V)) (hy : a.eval y = .int .i64 (j : Int)) : (execOp a.eval o).run Tryd.prog w = .ok (.value (.int .u8 (Q6 V j))) w := by
  rw [← Q5m]; exact Q5e (Q8i hj) ho hx hy
theorem Q1t {p q : Int} {b : Bool} (hb : decide (q ≤ p) = b) (ho : o.op = .binOp .geq t x y t') (hx : a.eval x = .int .u8 p) (hy : a.eval y = .int .u8 q) : (execOp a.eval o).run Tryd.prog w = .ok (.value (.bool b)) w := by
  subst hb
  simp only [execOp, ho, hx, hy, eqGuard, binOp, Sem.run_bind]
  simp [go_sem, Sem.run_bind]
theorem Z8j {i : Nat} (hi : i < 9223372036854775808) (ho : o.op = .binOp .sub t x y t') (hx : a.eval x = .int .i64 (i : Int)) (hy : a.eval y = .int .i64 1) : (execOp a.eval o).run Tryd.prog w = .ok (.value (.int .i64 ((i : Int) - 1))) w := by
  have h := IntWalk.i64_in ((i : Int) - 1) (by omega)
  simp only [execOp, ho, hx, hy, eqGuard, binOp, Sem.run_bind]
  simp [go_sem, Sem.run_bind, h]
theorem Q9s {p : Nat} {k : IntKind} {n : Nat} (hn : n ≤ 8) (ho : o.op = .binOp .shr t x y t') (hx : a.eval x = .int .u8 (p : Int)) (hy : a.eval y = .int k (n : Int)) : (execOp a.eval o).run Tryd.prog w = .ok (.value (.int .u8 ((p / 2 ^ n : Nat) : Int))) w := by
  have e : (p : Int) / 2 ^ n = ((p / 2 ^ n : Nat) : Int) := by rw [Int.natCast_ediv, Int.natCast_pow]; rfl
  rw [Q58 hn ho hx hy, e]
theorem J4v {N r : Nat} (h : N % 2 = r) (ho : o.op = .binOp .rem t x y t') (hx : a.eval x = .int .i64 (Q2 N 0)) (hy : a.eval y = .int .i64 2) : (execOp a.eval o).run Tryd.prog w = .ok (.value (.int .i64 (r : Int))) w := by
  have := Q57 (P := Tryd.prog) (w := w) (i := N / 2 ^ (16 * 0) % 65536) (m := 2) (by decide) (Nat.lt_trans (Nat.mod_lt _ (by decide)) (by decide)) ho hx hy
  rw [this, Nat.mul_zero, Nat.pow_zero, Nat.div_one, show N % 65536 % 2 = r by omega]
end
section
variable {ops : Array Oper} {w : World} {r : List Oper} {o : Oper} {a : Act} {E : Act → Prop}
theorem J40 {x y : Operand} {t : TypeId} {l m : List UInt8} {b : Bool} (hb : (!decide (l = m)) = b) (hw : Region.wanted o (yielded ops a.tmps) = true) (ho : o.op = .binOp .neq 9 x y t) (hx : a.eval x = str l) (hy : a.eval y = str m)
    (h : wpX Tryd.prog ops w E r (a.put o.dst (.bool b))) : wpX Tryd.prog ops w E (o :: r) a := J43 hw (fun _ _ => hb ▸ Q6s ho hx hy) h
end
theorem Q12 {w W : World} {v : Value} {l : List UInt8} (h : Sl w v l) (hW : Ext w W) : Sl W v l := h.off (Z6 hW) (by simp)
theorem take_set {cs : Array Value} {V V' : Nat} {v : Value} (h : cs.toList.take 32 = bs8 (lb 32 V)) (he : (J1 .u8 32 (Q6 V)).setIfInBounds 31 v = J1 .u8 32 (Q6 V')) : (cs.setIfInBounds 31 v).toList.take 32 = bs8 (lb 32 V') := by
  rw [Array.toList_setIfInBounds, List.take_set, h, Q2u, Q2u, ← J5k, ← J5k, ← he, Array.toList_setIfInBounds]
theorem J85 {cs : Array Value} {V j : Nat} (h : cs.toList.take 32 = bs8 (lb 32 V)) (hj : j < 32) : cs[j]? = some (.int .u8 (Q6 V j)) := by
  have e : (cs.toList.take 32)[j]? = some (.int .u8 (Q6 V j)) := by rw [h, Q2u]; exact Q9y _ _ _ _ hj
  rw [List.getElem?_take_of_lt hj] at e
  simpa using e
def le : List UInt8 → Nat
  | [] => 0
  | x :: r => x.toNat + 256 * le r
theorem Z3j : ∀ l : List UInt8, le l < 2 ^ (8 * l.length)
  | [] => by decide
  | x :: r => by
    have h := Z3j r
    have hx := x.toNat_lt
    show x.toNat + 256 * le r < 2 ^ (8 * (r.length + 1))
    rw [Nat.mul_add, Nat.pow_add]
    omega
theorem Z3s : ∀ {l : List UInt8} {i : Nat} {c : UInt8}, l[i]? = some c → le l / 2 ^ (8 * i) % 256 = c.toNat
  | x :: r, 0, c, h => by
    obtain rfl : x = c := by simpa using h
    have hx := x.toNat_lt
    show (x.toNat + 256 * le r) / 2 ^ 0 % 256 = _
    rw [Nat.pow_zero, Nat.div_one]
    omega
  | x :: r, i + 1, c, h => by
    have hx := x.toNat_lt
    have ih := Z3s (l := r) (i := i) (c := c) (by simpa using h)
    show (x.toNat + 256 * le r) / 2 ^ (8 * (i + 1)) % 256 = _
    rw [Nat.mul_add, Nat.add_comm (8 * i), Nat.pow_add, ← Nat.div_div_eq_div_mul, show (x.toNat + 256 * le r) / 2 ^ (8 * 1) = le r by omega]
    exact ih
theorem Z8k {l : List UInt8} {i k : Nat} {c : UInt8} (h : l[i]? = some c) (hk : k < 8) : c.toNat / 2 ^ k % 2 = le l / 2 ^ (8 * i + k) % 2 := by
  rw [← Z3s h, Nat.pow_add, ← Nat.div_div_eq_div_mul]
  generalize le l / 2 ^ (8 * i) = x
  obtain ⟨d, hd⟩ : ∃ d, 8 = k + (1 + d) := ⟨7 - k, by omega⟩
  rw [show 256 = 2 ^ 8 by decide, hd, Nat.pow_add 2 k, Nat.mod_mul_right_div_self, Nat.pow_add 2 1 d, Nat.pow_one, Nat.mod_mul_right_mod]
theorem J8q (n V : Nat) : lb (n + 1) V = UInt8.ofNat (V % 256) :: lb n (V / 256) := by
  unfold lb
  rw [List.range_succ_eq_map, List.map_cons, List.map_map]
  congr 1
  · rw [Nat.mul_zero, Nat.pow_zero, Nat.div_one]
  · apply List.map_congr_left
    intro j _
    simp only [Function.comp]
    rw [Nat.div_div_eq_div_mul, Nat.succ_eq_add_one, Nat.mul_add, Nat.pow_add, Nat.mul_comm (2 ^ (8 * j))]
theorem Q3h : ∀ n V : Nat, V < 2 ^ (8 * n) → le (lb n V) = V
  | 0, V, h => by
    have : V < 1 := h
    obtain rfl : V = 0 := by omega
    rfl
  | n + 1, V, h => by
    rw [J8q]
    show (UInt8.ofNat (V % 256)).toNat + 256 * le (lb n (V / 256)) = V
    rw [Nat.mul_add, Nat.pow_add] at h
    rw [Q3h n (V / 256) (by omega), UInt8.toNat_ofNat']
    omega
end Go.Proofs.YtefpoollmbmkfaaDoor
