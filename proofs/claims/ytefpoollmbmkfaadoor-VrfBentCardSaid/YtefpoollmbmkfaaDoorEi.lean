/- Points as cells, and what the numbers of the code and of the document tell of points. No conditions. The highest bit of 32 bytes; '==' of 32 bytes; texts of numbers' bytes. No conditions. Texts and bytes, by index; a byte turned in a row of bytes; numbers of the bytes of a text. No conditions. -/
import Derived.Test.YtefpoollmbmkfaaDoorEg
import Derived.Test.YtefpoollmbmkfaaDoorGc
import Derived.Test.YtefpoollmbmkfaaDoorEb
import Derived.Test.YtefpoollmbmkfaaDoorEe
import Derived.Laws.BitsAllLaws
set_option linter.unusedSimpArgs false
set_option linter.unusedVariables false
namespace Go.Proofs.YtefpoollmbmkfaaDoor
set_option maxRecDepth 100000
open Go.RowKit

def D2 : Nat := 16295367250680780974490674513165176452449235426866156013048779062215315747161
def BX : Nat := 15112221349535400772501151409588531511454012693041857206046113283949847762202
def BY : Nat := 46316835694926478169428394003475163141307993866256225615783033603165251855960
def BP : Pr := (fp BX, fp BY)
theorem Q0w : OnC BP := by unfold OnC; decide +kernel
theorem V2f : fp D2 = 2 * dd := by decide +kernel
theorem Q9q : DD < Z0 := by decide
theorem V1s : D2 < Z0 := by decide
theorem Q9 {A : Nat} (h : A < PP) : A < Z0 := Nat.lt_trans h (by decide)
theorem J32 (A : Nat) : A % PP < PP := Nat.mod_lt _ J6i
theorem bpp {X n : Nat} (h : X = n % PP) : X < PP := h ▸ J32 n
def p4 (X Y Z T : Nat) : Array Value := c4 X ++ c4 Y ++ c4 Z ++ c4 T
def p3 (X Y Z : Nat) : Array Value := J1 .i64 16 (Q2 X) ++ J1 .i64 16 (Q2 Y) ++ J1 .i64 16 (Q2 Z)
section
variable {X Y Z T : Nat}
theorem Q0t : ∀ i v, (c4 X)[i]? = some v → (p4 X Y Z T)[0 + i]? = some v := fun i v h => by rw [Nat.zero_add]; exact J5h (J5h (J5h h))
theorem Q2q : ∀ i v, (c4 Y)[i]? = some v → (p4 X Y Z T)[4 + i]? = some v := fun i v h => J5h (J5h (Q0x rfl h))
theorem J8p : ∀ i v, (c4 Z)[i]? = some v → (p4 X Y Z T)[8 + i]? = some v := fun i v h => J5h (Q0x rfl h)
theorem Y82 : ∀ i v, (c4 T)[i]? = some v → (p4 X Y Z T)[12 + i]? = some v := fun i v h => Q0x rfl h
theorem s16 {f : Nat → Int} : (J1 .i64 16 f).size = 16 := Q1 _ _ _
theorem Q40 : ∀ i v, (J1 .i64 16 (Q2 X))[i]? = some v → (p3 X Y Z)[0 + i]? = some v := fun i v h => by rw [Nat.zero_add]; exact J5h (J5h h)
theorem Q6h : ∀ i v, (J1 .i64 16 (Q2 Y))[i]? = some v → (p3 X Y Z)[16 + i]? = some v := fun i v h => J5h (Q0x s16 h)
theorem Q1v : ∀ i v, (J1 .i64 16 (Q2 Z))[i]? = some v → (p3 X Y Z)[32 + i]? = some v := fun i v h => Q0x (by rw [Array.size_append, s16, s16]) h
theorem J3 : (p3 X Y Z).size = 48 := by unfold p3; rw [Array.size_append, Array.size_append, s16, s16, s16]
theorem J0h : (p3 X Y Z).all (·.oneCell') = true := by
  unfold p3
  rw [Array.all_append, Array.all_append, Y7, Y7, Y7]; rfl
end
structure RN (X Y Z T : Nat) (a : Pr) : Prop where
  x : X < PP
  y : Y < PP
  z : Z < PP
  t : T < PP
  on : OnC a
  rc : Rc (fp X) (fp Y) (fp Z) (fp T) a
def RW (X Y Z T : Nat) (a : Pr) : Prop := RN X Y Z T a ∨ (X = 0 ∧ Y = 0 ∧ Z = 0 ∧ T = 0 ∧ a = p0)
structure RD (X Y Z : Nat) (a : Pr) : Prop where
  x : X < PP
  y : Y < PP
  z : Z < PP
  on : OnC a
  rr : Rr (fp X) (fp Y) (fp Z) a
section
variable {X Y Z T : Nat} {a : Pr}
theorem RN.rw (h : RN X Y Z T a) : RW X Y Z T a := .inl h
theorem RW.on (h : RW X Y Z T a) : OnC a := by
  rcases h with h | h
  · exact h.on
  · rw [h.2.2.2.2]; exact Z94
theorem Q0g : RW 0 0 0 0 p0 := .inr ⟨rfl, rfl, rfl, rfl, rfl⟩
theorem RW.x (h : RW X Y Z T a) : X < Z0 := by
  rcases h with h | h
  · exact Q9 h.x
  · rw [h.1]; decide
theorem RW.y (h : RW X Y Z T a) : Y < Z0 := by
  rcases h with h | h
  · exact Q9 h.y
  · rw [h.2.1]; decide
theorem RW.z (h : RW X Y Z T a) : Z < Z0 := by
  rcases h with h | h
  · exact Q9 h.z
  · rw [h.2.2.1]; decide
theorem RW.t (h : RW X Y Z T a) : T < Z0 := by
  rcases h with h | h
  · exact Q9 h.t
  · rw [h.2.2.2.1]; decide
theorem RN.nz (h : RN X Y Z T a) : Z ≠ 0 := fun e => h.rc.1 (by rw [e]; rfl)
theorem RW.cases (h : RW X Y Z T a) : (Z ≠ 0 ∧ RN X Y Z T a) ∨ (Z = 0 ∧ a = p0) := by
  rcases h with h | h
  · exact .inl ⟨h.nz, h⟩
  · exact .inr ⟨h.2.2.1, h.2.2.2.2⟩
theorem rn_p0 : RN 0 1 1 0 p0 := ⟨by decide, by decide, by decide, by decide, Z94, by
  refine ⟨by decide +kernel, ?_, ?_, ?_⟩ <;> decide +kernel⟩
theorem RN.rr (h : RN X Y Z T a) : RD X Y Z a := ⟨h.x, h.y, h.z, h.on, h.rc.rr⟩
theorem Q0j (A B : Nat) : fp ((A + (PP - B % PP)) % PP) = fp A - fp B := by rw [J1i, Q19, J9t]; grind
theorem J41 (A B : Nat) : fp ((A + B) % PP) = fp A + fp B := by rw [J1i, Q19]
theorem J0x (A B : Nat) : fp (A * B % PP) = fp A * fp B := by rw [J1i, J1s]
theorem Q8o (A : Nat) : fp ((PP - A % PP) % PP) = - fp A := by rw [J1i, J9t]
theorem Z8b {X1 Y1 Z1 T1 X2 Y2 Z2 T2 s1 s2 A a1 a2 B m C zz D E F G H x y z t : Nat} {p q : Pr} (r1 : RN X1 Y1 Z1 T1 p) (r2 : RN X2 Y2 Z2 T2 q)
    (e1 : s1 = (Y1 + (PP - X1 % PP)) % PP) (e2 : s2 = (Y2 + (PP - X2 % PP)) % PP) (eA : A = s1 * s2 % PP) (e3 : a1 = (Y1 + X1) % PP) (e4 : a2 = (Y2 + X2) % PP) (eB : B = a1 * a2 % PP)
    (e5 : m = T1 * D2 % PP) (eC : C = m * T2 % PP) (e6 : zz = (Z1 + Z1) % PP) (eD : D = zz * Z2 % PP) (eE : E = (B + (PP - A % PP)) % PP) (eF : F = (D + (PP - C % PP)) % PP) (eG : G = (D + C) % PP) (eH : H = (B + A) % PP)
    (ex : x = E * F % PP) (ey : y = G * H % PP) (ez : z = F * G % PP) (et : t = E * H % PP) : RN x y z t (J14 p q) := by
  have k := Y8o (A := fp A) (B := fp B) (C := fp C) (D := fp D) r1.on r2.on r1.rc r2.rc (by rw [eA, J0x, e1, e2, Q0j, Q0j]) (by rw [eB, J0x, e3, e4, J41, J41])
    (by rw [eC, J0x, e5, J0x, V2f]) (by rw [eD, J0x, e6, J41])
  refine ⟨ex ▸ J32 _, ey ▸ J32 _, ez ▸ J32 _, et ▸ J32 _, Q0i r1.on r2.on, ?_⟩
  rw [ex, ey, ez, et, J0x, J0x, J0x, J0x, eE, eF, eG, eH, Q0j, Q0j, J41, J41]
  exact k
theorem Q9p {A B c C H S q E G F x y z t : Nat} (r : RN X Y Z T a) (eA : A = X * X % PP) (eB : B = Y * Y % PP) (e1 : c = Z * Z % PP) (eC : C = (c + c) % PP) (eH : H = (A + B) % PP) (eS : S = (X + Y) % PP) (e2 : q = S * S % PP)
    (eE : E = (H + (PP - q % PP)) % PP) (eG : G = (A + (PP - B % PP)) % PP) (eF : F = (C + G) % PP) (ex : x = E * F % PP) (ey : y = G * H % PP) (ez : z = F * G % PP) (et : t = E * H % PP) : RN x y z t (J14 a a) := by
  have k := Z96 (A := fp A) (B := fp B) (C := fp C) (E := fp E) (G := fp G) (H := fp H) (F := fp F) r.on r.rc (by rw [eA, J0x]) (by rw [eB, J0x]) (by rw [eC, J41, e1, J0x]) (by rw [eH, J41])
    (by rw [eE, Q0j, e2, J0x, eS, J41]) (by rw [eG, Q0j]) (by rw [eF, J41])
  refine ⟨ex ▸ J32 _, ey ▸ J32 _, ez ▸ J32 _, et ▸ J32 _, Q0i r.on r.on, ?_⟩
  rw [ex, ey, ez, et, J0x, J0x, J0x, J0x]
  exact k
theorem Y83 {x t : Nat} (r : RN X Y Z T a) (ex : x = (PP - X % PP) % PP) (et : t = (PP - T % PP) % PP) : RN x Y Z t (J4c a) := by
  refine ⟨ex ▸ J32 _, r.y, r.z, et ▸ J32 _, Q49 r.on, ?_⟩
  obtain ⟨h1, h2, h3, h4⟩ := r.rc
  rw [ex, et, Q8o, Q8o]
  refine ⟨h1, ?_, h3, ?_⟩
  · show -fp X = -a.1 * fp Z
    rw [h2]; grind
  · show -fp T = -a.1 * a.2 * fp Z
    rw [h4]; grind
theorem Q6p {t : Nat} (hX : X < PP) (hY : Y < PP) (on : OnC (fp X, fp Y)) (et : t = X * Y % PP) : RN X Y 1 t (fp X, fp Y) := by
  refine ⟨hX, hY, by decide, et ▸ J32 _, on, ?_⟩
  rw [et, J0x, Q30]
  refine ⟨by decide +kernel, ?_, ?_, ?_⟩
  · show fp X = fp X * 1
    grind
  · show fp Y = fp Y * 1
    grind
  · show fp X * fp Y = fp X * fp Y * 1
    grind
theorem Y8e {X1 Y1 Z1 X2 Y2 Z2 A B C D q E F G s1 s2 S af cd u x ag y z : Nat} {p q' : Pr} (r1 : RD X1 Y1 Z1 p) (r2 : RD X2 Y2 Z2 q')
    (eA : A = Z1 * Z2 % PP) (eB : B = A * A % PP) (eC : C = X1 * X2 % PP) (eD : D = Y1 * Y2 % PP) (e1 : q = C * D % PP) (eE : E = DD * q % PP) (eF : F = (B + (PP - E) % PP) % PP) (eG : G = (B + E) % PP)
    (e2 : s1 = (X1 + Y1) % PP) (e3 : s2 = (X2 + Y2) % PP) (eS : S = s1 * s2 % PP) (e4 : af = A * F % PP) (e5 : cd = (C + D) % PP) (e6 : u = (S + (PP - cd) % PP) % PP) (ex : x = af * u % PP) (e7 : ag = A * G % PP) (ey : y = ag * cd % PP) (ez : z = F * G % PP) : RD x y z (J14 p q') := by
  have hE : E % PP = E := Nat.mod_eq_of_lt (eE ▸ J32 _)
  have hc : cd % PP = cd := Nat.mod_eq_of_lt (e5 ▸ J32 _)
  rw [← hE] at eF
  rw [← hc] at e6
  have fs : ∀ U V : Nat, fp ((U + (PP - V % PP) % PP) % PP) = fp U - fp V := fun U V => by rw [J1i, Q19, J1i, J9t]; grind
  have k := Y8p (A := fp A) (B := fp B) (C := fp C) (D := fp D) (E := fp E) (F := fp F) (G := fp G) (S := fp S) r1.on r2.on r1.rr r2.rr (by rw [eA, J0x]) (by rw [eB, J0x]) (by rw [eC, J0x]) (by rw [eD, J0x])
    (by rw [eE, J0x, e1, J0x]; rfl) (by rw [eF, fs]) (by rw [eG, J41]) (by rw [eS, J0x, e2, e3, J41, J41])
  refine ⟨ex ▸ J32 _, ey ▸ J32 _, ez ▸ J32 _, Q0i r1.on r2.on, ?_⟩
  rw [ex, ey, ez, J0x, J0x, J0x, e4, e6, e7, J0x, fs, J0x, e5, J41]
  exact k
theorem Y8d {x : Nat} (r : RD X Y Z a) (ex : x = (PP - X) % PP) : RD x Y Z (J4c a) := by
  have hx : X % PP = X := Nat.mod_eq_of_lt r.x
  rw [← hx] at ex
  refine ⟨ex ▸ J32 _, r.y, r.z, Q49 r.on, ?_⟩
  obtain ⟨h1, h2, h3⟩ := r.rr
  rw [ex, Q8o]
  refine ⟨h1, ?_, h3⟩
  show -fp X = -a.1 * fp Z
  rw [h2]; grind
theorem Z8m (hX : X < PP) (hY : Y < PP) (on : OnC (fp X, fp Y)) : RD X Y 1 (fp X, fp Y) := (Q6p hX hY on rfl).rr
theorem Q5a {X1 Y1 Z1 X2 Y2 Z2 m1 m2 m3 m4 : Nat} {p q : Pr} (r1 : RD X1 Y1 Z1 p) (r2 : RD X2 Y2 Z2 q) (e1 : m1 = X1 * Z2 % PP) (e2 : m2 = X2 * Z1 % PP) (e3 : m3 = Y1 * Z2 % PP) (e4 : m4 = Y2 * Z1 % PP) : (m1 = m2 ∧ m3 = m4) ↔ p = q := by
  rw [← Y43 r1.rr r2.rr, ← J1s, ← J1s, ← J1s, ← J1s, fp_eq, fp_eq, ← e1, ← e2, ← e3, ← e4]
theorem Q8b {i x y : Nat} (r : RD X Y Z a) (ei : i = pw Z (PP - 2)) (ex : x = X * i % PP) (ey : y = Y * i % PP) : x = a.1.val ∧ y = a.2.val := by
  have k := Y8q r.rr
  have hi : fp i = J5d (fp Z) := by
    rw [ei, V28]
    show _ = fp ((fp Z).val ^ (PP - 2))
    rw [Q8i, Nat.mod_eq_of_lt r.z]
  rw [← hi, ← J1s, ← J1s] at k
  rw [ex, ey]
  exact ⟨congrArg Fin.val k.1, congrArg Fin.val k.2⟩
end
theorem Y8t {w W : World} (h : GI w) (e : Ext w W) : GI W := Rd.ext (show Rd w 8 J6l from h) e
structure Kn where
  d : Prop
  b : Prop
  c : Prop
  r : Prop
abbrev GE (kn : Kn) (w : World) : Prop := GF w ∧ (kn.c → GI w) ∧ (kn.c → Rd w 1 (c4 DD)) ∧ (kn.d → Rd w 5 (c4 D2)) ∧ (kn.b → Rd w 3 (c4 BX)) ∧ (kn.b → Rd w 4 (c4 BY))
theorem J7 {kn : Kn} {w W : World} (h : GE kn w) (k : Ext w W) : GE kn W := ⟨Z8 h.1 k, fun x => Y8t (h.2.1 x) k, fun x => (h.2.2.1 x).ext k, fun x => (h.2.2.2.1 x).ext k, fun x => (h.2.2.2.2.1 x).ext k, fun x => (h.2.2.2.2.2 x).ext k⟩
end Go.Proofs.YtefpoollmbmkfaaDoor

namespace Go.Proofs.YtefpoollmbmkfaaDoor
set_option maxRecDepth 100000
open Go.RowKit

theorem Z9a : ∀ a, a < 256 → a &&& 128 = if 128 ≤ a then 128 else 0 := by decide +kernel
theorem V2g : ∀ a, a < 128 → a ||| 128 = a + 128 := by decide +kernel
theorem Y48 : ∀ a, a < 256 → a &&& (255 - 128) = a % 128 := by decide +kernel
theorem Y8u : ∀ a, a < 256 → a &&& 127 = a % 128 := by decide +kernel
section
variable {P : Program} {w : World} {o : Oper} {a : Act} {x y : Operand} {t t' : TypeId} {p q r : Int}
theorem J4e (h : bits .and .u8 p q = r) (ho : o.op = .binOp .and t x y t') (hx : a.eval x = .int .u8 p) (hy : a.eval y = .int .u8 q) : (execOp a.eval o).run P w = .ok (.value (.int .u8 r)) w := by
  subst h; simp only [execOp, ho, hx, hy]; rfl
theorem Z3h (h : bits .or .u8 p q = r) (ho : o.op = .binOp .or t x y t') (hx : a.eval x = .int .u8 p) (hy : a.eval y = .int .u8 q) : (execOp a.eval o).run P w = .ok (.value (.int .u8 r)) w := by
  subst h; simp only [execOp, ho, hx, hy]; rfl
theorem Q0f (h : bits .andNot .u8 p q = r) (ho : o.op = .binOp .andNot t x y t') (hx : a.eval x = .int .u8 p) (hy : a.eval y = .int .u8 q) : (execOp a.eval o).run P w = .ok (.value (.int .u8 r)) w := by
  subst h; simp only [execOp, ho, hx, hy]; rfl
end
theorem Q5e {V : Nat} (hV : V < 2 ^ 256) : Q6 V 31 = ((V / 2 ^ 248 : Nat) : Int) ∧ V / 2 ^ 248 < 256 := by
  have h : V / 2 ^ 248 < 256 := Nat.div_lt_of_lt_mul (by rw [← show (2 : Nat) ^ 256 = 2 ^ 248 * 256 by decide]; exact hV)
  unfold Q6
  rw [show 8 * 31 = 248 by decide, Nat.mod_eq_of_lt h]
  exact ⟨rfl, h⟩
theorem Q8e (V : Nat) : top V = true ↔ 128 ≤ V / 2 ^ 248 := by
  unfold top
  rw [decide_eq_true_iff]
  generalize hP : (2 : Nat) ^ 248 = P
  have e : (2 : Nat) ^ 255 = 128 * P := by rw [← hP]
  rw [e, Nat.le_div_iff_mul_le (by subst hP; decide)]
theorem Z3j {V : Nat} (hV : V < 2 ^ 256) (ht : top V = true) : bits .and .u8 (Q6 V 31) 128 = 128 := by
  obtain ⟨h1, h2⟩ := Q5e hV
  rw [h1]
  refine (u8_and_nat _ 128 h2 (by decide)).trans ?_
  rw [Z9a _ h2, if_pos ((Q8e V).1 ht)]; rfl
theorem Z3k {V : Nat} (hV : V < 2 ^ 256) (ht : ¬ top V = true) : bits .and .u8 (Q6 V 31) 128 = 0 := by
  obtain ⟨h1, h2⟩ := Q5e hV
  rw [h1]
  refine (u8_and_nat _ 128 h2 (by decide)).trans ?_
  rw [Z9a _ h2, if_neg fun h => ht ((Q8e V).2 h)]; rfl
theorem Z3x {V j : Nat} (hj : j < 31) : Q6 (V % 2 ^ 255) j = Q6 V j := by
  unfold Q6
  congr 1
  obtain ⟨d, hd⟩ : ∃ d, 255 = 8 * j + (8 + d) := ⟨247 - 8 * j, by omega⟩
  rw [hd, Nat.pow_add 2 (8 * j), Nat.mod_mul_right_div_self, Nat.pow_add 2 8 d, Nat.mod_mul_right_mod]
theorem Y49 (V : Nat) : Q6 (V % 2 ^ 255) 31 = ((V / 2 ^ 248 % 128 : Nat) : Int) := by
  unfold Q6
  congr 1
  rw [show 8 * 31 = 248 by decide, show (2 : Nat) ^ 255 = 2 ^ 248 * 128 by decide, Nat.mod_mul_right_div_self]
  omega
theorem Q9r {V : Nat} {r : Int} (hr : r = ((V / 2 ^ 248 % 128 : Nat) : Int)) : J1 .u8 32 (upd (Q6 V) 31 r) = J1 .u8 32 (Q6 (V % 2 ^ 255)) := by
  apply J0d
  intro j hj
  by_cases h : j = 31
  · subst h; rw [J31, Y49]; exact hr
  · rw [J19 _ _ _ _ h, Z3x (by omega)]
theorem Q46 {V : Nat} (hV : V < 2 ^ 256) : bits .andNot .u8 (Q6 V 31) 128 = ((V / 2 ^ 248 % 128 : Nat) : Int) := by
  obtain ⟨h1, h2⟩ := Q5e hV
  rw [h1]
  refine (u8_andNot_nat _ 128 h2 (by decide)).trans ?_
  rw [Y48 _ h2]
theorem Z8i {V : Nat} (hV : V < 2 ^ 256) : bits .and .u8 (Q6 V 31) 127 = ((V / 2 ^ 248 % 128 : Nat) : Int) := by
  obtain ⟨h1, h2⟩ := Q5e hV
  rw [h1]
  refine (u8_and_nat _ 127 h2 (by decide)).trans ?_
  rw [Y8u _ h2]
theorem Y4a {V : Nat} (hV : V < 2 ^ 255) : bits .or .u8 (Q6 V 31) 128 = Q6 (V + 2 ^ 255) 31 := by
  obtain ⟨h1, h2⟩ := Q5e (V := V) (Nat.lt_trans hV (by decide))
  obtain ⟨h3, h4⟩ := Q5e (V := V + 2 ^ 255) (by omega)
  have h5 : V / 2 ^ 248 < 128 := Nat.div_lt_of_lt_mul (by rw [← show (2 : Nat) ^ 255 = 2 ^ 248 * 128 by decide]; exact hV)
  rw [h1, h3]
  refine (u8_or_nat _ 128 h2 (by decide)).trans ?_
  rw [V2g _ h5, show (2 : Nat) ^ 255 = 2 ^ 248 * 128 by decide, Nat.add_mul_div_left _ _ (by decide)]
theorem Y6g {V : Nat} (hV : V < 2 ^ 255) : J1 .u8 32 (upd (Q6 V) 31 (bits .or .u8 (Q6 V 31) 128)) = J1 .u8 32 (Q6 (V + 2 ^ 255)) := by
  apply J0d
  intro j hj
  by_cases h : j = 31
  · subst h; rw [J31, Y4a hV]
  · rw [J19 _ _ _ _ h, ← Z3x (V := V + 2 ^ 255) (by omega), Nat.add_mod_right, Nat.mod_eq_of_lt hV]
theorem J4d (A : Nat) : ∀ n, J1f (Q6 A) n = A % 2 ^ (8 * n)
  | 0 => by rw [Nat.mul_zero, Nat.pow_zero, Nat.mod_one]; rfl
  | n + 1 => by
    show J1f (Q6 A) n + (Q6 A n).toNat * 2 ^ (8 * n) = _
    rw [J4d A n, Nat.mul_add, Nat.pow_add, Nat.mod_mul, Nat.mul_comm (Q6 A n).toNat]
    rfl
theorem Z3y {A B : Nat} (hA : A < 2 ^ 256) (hB : B < 2 ^ 256) (h : ∀ j, j < 32 → Q6 A j = Q6 B j) : A = B := by
  have key : ∀ n, n ≤ 32 → J1f (Q6 A) n = J1f (Q6 B) n := by
    intro n
    induction n with
    | zero => intro _; rfl
    | succ n ih => intro hn; show J1f (Q6 A) n + (Q6 A n).toNat * _ = J1f (Q6 B) n + (Q6 B n).toNat * _; rw [ih (by omega), h n (by omega)]
  have := key 32 (by omega)
  rw [J4d, J4d] at this
  rwa [show 8 * 32 = 256 by decide, Nat.mod_eq_of_lt hA, Nat.mod_eq_of_lt hB] at this
theorem Y6i (A B : Nat) (hA : A < 2 ^ 256) (hB : B < 2 ^ 256) (w : World) : (Op.equalIn 10000 22 (.agg (J1 .u8 32 (Q6 A))) (.agg (J1 .u8 32 (Q6 B)))).run Tryd.prog w = .ok (decide (A = B)) w := by
  have h := J6f (P := Tryd.prog) w 9998 22 5 32 .u8 (J1 .u8 32 (Q6 A)) (J1 .u8 32 (Q6 B)) (Q6 A) (Q6 B) Tryd.underlying22 Tryd.underlying5 (by kernel_rfl)
    (fun i hi => J6 _ _ _ _ hi) (fun i hi => J6 _ _ _ _ hi)
  rw [h]
  congr 1
  rw [Bool.eq_iff_iff, Q13, decide_eq_true_iff]
  exact ⟨Z3y hA hB, fun h => by subst h; intro _ _; rfl⟩
def lb (n V : Nat) : List UInt8 := (List.range n).map fun j => UInt8.ofNat (V / 2 ^ (8 * j) % 256)
theorem J8 (n V : Nat) : (lb n V).length = n := by simp [lb]
theorem Q8p {n V j : Nat} (hj : j < n) : (lb n V)[j]? = some (UInt8.ofNat (V / 2 ^ (8 * j) % 256)) := by simp [lb, hj]
theorem Q5q (V j : Nat) : ((UInt8.ofNat (V / 2 ^ (8 * j) % 256)).toNat : Int) = Q6 V j := by
  unfold Q6
  rw [UInt8.toNat_ofNat', Nat.mod_mod]
theorem Q47 (n V : Nat) : Q6i n (Q6 V) = str (lb n V) := by
  unfold Q6i str strOfNums lb
  congr 1
  simp only [List.map_map]
  congr 1
theorem Q32 (n V : Nat) : bs8 (lb n V) = J7b .u8 n (Q6 V) := by
  unfold bs8 lb J7b
  rw [List.map_map]
  apply List.map_congr_left
  intro j _
  simp only [Function.comp, Q5q]
theorem J5n (n : Nat) (f : Nat → Int) : (J1 .u8 n f).toList = J7b .u8 n f := rfl
theorem Z8j {A B : Nat} (hA : A < 2 ^ 256) (hB : B < 2 ^ 256) (h : lb 32 A = lb 32 B) : A = B := by
  refine Z3y hA hB fun j hj => ?_
  have h1 := Q8p (V := A) hj
  rw [h, Q8p hj] at h1
  rw [← Q5q, ← Q5q, Option.some.inj h1]
end Go.Proofs.YtefpoollmbmkfaaDoor

namespace Go.Proofs.YtefpoollmbmkfaaDoor
set_option maxRecDepth 100000
open Go.RowKit
section
variable {w : World} {o : Oper} {a : Act} {x y : Operand} {t t' : TypeId}
theorem Q5j {l : List UInt8} {i : Nat} {c : UInt8} (h : l[i]? = some c) (ho : o.op = .index 9 x y) (hx : a.eval x = str l) (hy : a.eval y = .int .i64 (i : Int)) : (execOp a.eval o).run Tryd.prog w = .ok (.value (.int .u8 (c.toNat : Int))) w := by
  have hs := J7e l
  have hi := (List.getElem?_eq_some_iff.1 h).1
  have hg := (List.getElem?_eq_some_iff.1 h).2
  have hg2 : (⟨l.toArray⟩ : ByteArray)[i]'(by rw [hs]; exact hi) = c := by
    show l.toArray[i]'(by simpa using hi) = c
    simpa using hg
  simp only [execOp, ho, hx, hy, str, Sem.run_bind]
  simp [Instr.index, asIntOf, run_underlying Tryd.underlying9, hs, hi, hg2, Sem.run_bind]
theorem Q1x {n V j : Nat} (hj : j < n) (ho : o.op = .index 9 x y) (hx : a.eval x = str (lb n V)) (hy : a.eval y = .int .i64 (j : Int)) : (execOp a.eval o).run Tryd.prog w = .ok (.value (.int .u8 (Q6 V j))) w := by
  rw [← Q5q]; exact Q5j (Q8p hj) ho hx hy
theorem Q1y {p q : Int} {b : Bool} (hb : decide (q ≤ p) = b) (ho : o.op = .binOp .geq t x y t') (hx : a.eval x = .int .u8 p) (hy : a.eval y = .int .u8 q) : (execOp a.eval o).run Tryd.prog w = .ok (.value (.bool b)) w := by
  subst hb
  simp only [execOp, ho, hx, hy, eqGuard, binOp, Sem.run_bind]
  simp [go_sem, Sem.run_bind]
theorem Z8u {i : Nat} (hi : i < 9223372036854775808) (ho : o.op = .binOp .sub t x y t') (hx : a.eval x = .int .i64 (i : Int)) (hy : a.eval y = .int .i64 1) : (execOp a.eval o).run Tryd.prog w = .ok (.value (.int .i64 ((i : Int) - 1))) w := by
  have h := IntWalk.i64_in ((i : Int) - 1) (by omega)
  simp only [execOp, ho, hx, hy, eqGuard, binOp, Sem.run_bind]
  simp [go_sem, Sem.run_bind, h]
theorem Q9y {p : Nat} {k : IntKind} {n : Nat} (hn : n ≤ 8) (ho : o.op = .binOp .shr t x y t') (hx : a.eval x = .int .u8 (p : Int)) (hy : a.eval y = .int k (n : Int)) : (execOp a.eval o).run Tryd.prog w = .ok (.value (.int .u8 ((p / 2 ^ n : Nat) : Int))) w := by
  have e : (p : Int) / 2 ^ n = ((p / 2 ^ n : Nat) : Int) := by rw [Int.natCast_ediv, Int.natCast_pow]; rfl
  rw [Q5d hn ho hx hy, e]
theorem J4x {N r : Nat} (h : N % 2 = r) (ho : o.op = .binOp .rem t x y t') (hx : a.eval x = .int .i64 (Q2 N 0)) (hy : a.eval y = .int .i64 2) : (execOp a.eval o).run Tryd.prog w = .ok (.value (.int .i64 (r : Int))) w := by
  have := Q5c (P := Tryd.prog) (w := w) (i := N / 2 ^ (16 * 0) % 65536) (m := 2) (by decide) (Nat.lt_trans (Nat.mod_lt _ (by decide)) (by decide)) ho hx hy
  rw [this, Nat.mul_zero, Nat.pow_zero, Nat.div_one, show N % 65536 % 2 = r by omega]
end
section
variable {ops : Array Oper} {w : World} {r : List Oper} {o : Oper} {a : Act} {E : Act → Prop}
theorem J40 {x y : Operand} {t : TypeId} {l m : List UInt8} {b : Bool} (hb : (!decide (l = m)) = b) (hw : Region.wanted o (yielded ops a.tmps) = true) (ho : o.op = .binOp .neq 9 x y t) (hx : a.eval x = str l) (hy : a.eval y = str m)
    (h : wpX Tryd.prog ops w E r (a.put o.dst (.bool b))) : wpX Tryd.prog ops w E (o :: r) a := J4j hw (fun _ _ => hb ▸ Q6v ho hx hy) h
end
theorem J8r {w W : World} {v : Value} {l : List UInt8} (h : Sl w v l) (hW : Ext w W) : Sl W v l := h.off (Z6 hW) (by simp)
theorem take_set {cs : Array Value} {V V' : Nat} {v : Value} (h : cs.toList.take 32 = bs8 (lb 32 V)) (he : (J1 .u8 32 (Q6 V)).setIfInBounds 31 v = J1 .u8 32 (Q6 V')) : (cs.setIfInBounds 31 v).toList.take 32 = bs8 (lb 32 V') := by
  rw [Array.toList_setIfInBounds, List.take_set, h, Q32, Q32, ← J5n, ← J5n, ← he, Array.toList_setIfInBounds]
theorem J86 {cs : Array Value} {V j : Nat} (h : cs.toList.take 32 = bs8 (lb 32 V)) (hj : j < 32) : cs[j]? = some (.int .u8 (Q6 V j)) := by
  have e : (cs.toList.take 32)[j]? = some (.int .u8 (Q6 V j)) := by rw [h, Q32]; exact Z04 _ _ _ _ hj
  rw [List.getElem?_take_of_lt hj] at e
  simpa using e
def le : List UInt8 → Nat
  | [] => 0
  | x :: r => x.toNat + 256 * le r
theorem Z3q : ∀ l : List UInt8, le l < 2 ^ (8 * l.length)
  | [] => by decide
  | x :: r => by
    have h := Z3q r
    have hx := x.toNat_lt
    show x.toNat + 256 * le r < 2 ^ (8 * (r.length + 1))
    rw [Nat.mul_add, Nat.pow_add]
    omega
theorem Z3z : ∀ {l : List UInt8} {i : Nat} {c : UInt8}, l[i]? = some c → le l / 2 ^ (8 * i) % 256 = c.toNat
  | x :: r, 0, c, h => by
    obtain rfl : x = c := by simpa using h
    have hx := x.toNat_lt
    show (x.toNat + 256 * le r) / 2 ^ 0 % 256 = _
    rw [Nat.pow_zero, Nat.div_one]
    omega
  | x :: r, i + 1, c, h => by
    have hx := x.toNat_lt
    have ih := Z3z (l := r) (i := i) (c := c) (by simpa using h)
    show (x.toNat + 256 * le r) / 2 ^ (8 * (i + 1)) % 256 = _
    rw [Nat.mul_add, Nat.add_comm (8 * i), Nat.pow_add, ← Nat.div_div_eq_div_mul, show (x.toNat + 256 * le r) / 2 ^ (8 * 1) = le r by omega]
    exact ih
theorem Z8v {l : List UInt8} {i k : Nat} {c : UInt8} (h : l[i]? = some c) (hk : k < 8) : c.toNat / 2 ^ k % 2 = le l / 2 ^ (8 * i + k) % 2 := by
  rw [← Z3z h, Nat.pow_add, ← Nat.div_div_eq_div_mul]
  generalize le l / 2 ^ (8 * i) = x
  obtain ⟨d, hd⟩ : ∃ d, 8 = k + (1 + d) := ⟨7 - k, by omega⟩
  rw [show 256 = 2 ^ 8 by decide, hd, Nat.pow_add 2 k, Nat.mod_mul_right_div_self, Nat.pow_add 2 1 d, Nat.pow_one, Nat.mod_mul_right_mod]
theorem J8t (n V : Nat) : lb (n + 1) V = UInt8.ofNat (V % 256) :: lb n (V / 256) := by
  unfold lb
  rw [List.range_succ_eq_map, List.map_cons, List.map_map]
  congr 1
  · rw [Nat.mul_zero, Nat.pow_zero, Nat.div_one]
  · apply List.map_congr_left
    intro j _
    simp only [Function.comp]
    rw [Nat.div_div_eq_div_mul, Nat.succ_eq_add_one, Nat.mul_add, Nat.pow_add, Nat.mul_comm (2 ^ (8 * j))]
theorem Q3n : ∀ n V : Nat, V < 2 ^ (8 * n) → le (lb n V) = V
  | 0, V, h => by
    have : V < 1 := h
    obtain rfl : V = 0 := by omega
    rfl
  | n + 1, V, h => by
    rw [J8t]
    show (UInt8.ofNat (V % 256)).toNat + 256 * le (lb n (V / 256)) = V
    rw [Nat.mul_add, Nat.pow_add] at h
    rw [Q3n n (V / 256) (by omega), UInt8.toNat_ofNat']
    omega
end Go.Proofs.YtefpoollmbmkfaaDoor
