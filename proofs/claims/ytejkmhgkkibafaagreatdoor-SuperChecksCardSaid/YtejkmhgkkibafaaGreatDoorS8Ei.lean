/- Contracts and plain laws that superChecks_holds rests on. Conditions: the variables' cells hold the numbers of the program's text. -/
import Derived.Test.YtejkmhgkkibafaaGreatDoorJ6
import Derived.Test.YtejkmhgkkibafaaGreatDoorJ3
import Derived.Test.YtejkmhgkkibafaaGreatDoorJ8
import Derived.Test.YtejkmhgkkibafaaGreatDoorS8Eg
import Derived.Test.YtejkmhgkkibafaaGreatDoorGc
import Derived.Test.YtejkmhgkkibafaaGreatDoorS8Eb
import Derived.Test.YtejkmhgkkibafaaGreatDoorS8Ee
import Derived.Laws.BitsAllLaws
open Go.RowKit
set_option linter.unusedSimpArgs false
set_option linter.unusedVariables false
namespace Go.Proofs.YtejkmhgkkibafaaGreatDoor.S8
section

def D2 : Nat := 16295367250680780974490674513165176452449235426866156013048779062215315747161
def BX : Nat := 15112221349535400772501151409588531511454012693041857206046113283949847762202
def BY : Nat := 46316835694926478169428394003475163141307993866256225615783033603165251855960
def BP : Pr := (fp BX, fp BY)
theorem J9l : OnC BP := by unfold OnC; decide +kernel
theorem V1c : fp D2 = 2 * dd := by decide +kernel
theorem Q7k : DD < Q7 := by decide
theorem V0n : D2 < Q7 := by decide
theorem Z5 {A : Nat} (h : A < PP) : A < Q7 := Nat.lt_trans h (by decide)
theorem J23 (A : Nat) : A % PP < PP := Nat.mod_lt _ J4o
theorem bpp {X n : Nat} (h : X = n % PP) : X < PP := h ▸ J23 n
def p4 (X Y Z T : Nat) : Array Value := c4 X ++ c4 Y ++ c4 Z ++ c4 T
def p3 (X Y Z : Nat) : Array Value := J0 .i64 16 (Q5 X) ++ J0 .i64 16 (Q5 Y) ++ J0 .i64 16 (Q5 Z)
section
variable {X Y Z T : Nat}
theorem Q3p : ∀ i v, (c4 X)[i]? = some v → (p4 X Y Z T)[0 + i]? = some v := fun i v h => by rw [Nat.zero_add]; exact J3y (J3y (J3y h))
theorem Q5q : ∀ i v, (c4 Y)[i]? = some v → (p4 X Y Z T)[4 + i]? = some v := fun i v h => J3y (J3y (J6t rfl h))
theorem Q5p : ∀ i v, (c4 Z)[i]? = some v → (p4 X Y Z T)[8 + i]? = some v := fun i v h => J3y (J6t rfl h)
theorem Y76 : ∀ i v, (c4 T)[i]? = some v → (p4 X Y Z T)[12 + i]? = some v := fun i v h => J6t rfl h
theorem s16 {f : Nat → Int} : (J0 .i64 16 f).size = 16 := J2 _ _ _
theorem Z3i : ∀ i v, (J0 .i64 16 (Q5 X))[i]? = some v → (p3 X Y Z)[0 + i]? = some v := fun i v h => by rw [Nat.zero_add]; exact J3y (J3y h)
theorem Z3j : ∀ i v, (J0 .i64 16 (Q5 Y))[i]? = some v → (p3 X Y Z)[16 + i]? = some v := fun i v h => J3y (J6t s16 h)
theorem Y1g : ∀ i v, (J0 .i64 16 (Q5 Z))[i]? = some v → (p3 X Y Z)[32 + i]? = some v := fun i v h => J6t (by rw [Array.size_append, s16, s16]) h
theorem Q6 : (p3 X Y Z).size = 48 := by unfold p3; rw [Array.size_append, Array.size_append, s16, s16, s16]
theorem J24 : (p3 X Y Z).all (·.oneCell') = true := by
  unfold p3
  rw [Array.all_append, Array.all_append, Z0, Z0, Z0]; rfl
end
structure RN (X Y Z T : Nat) (a : Pr) : Prop where
  x : X < PP
  y : Y < PP
  z : Z < PP
  t : T < PP
  on : OnC a
  rc : Rc (fp X) (fp Y) (fp Z) (fp T) a
def RW (X Y Z T : Nat) (a : Pr) : Prop := RN X Y Z T a ∨ (X = 0 ∧ Y = 0 ∧ Z = 0 ∧ T = 0 ∧ a = p0)
structure RD (X Y Z : Nat) (a : Pr) : Prop where
  x : X < PP
  y : Y < PP
  z : Z < PP
  on : OnC a
  rr : Rr (fp X) (fp Y) (fp Z) a
section
variable {X Y Z T : Nat} {a : Pr}
theorem RN.rw (h : RN X Y Z T a) : RW X Y Z T a := .inl h
theorem RW.on (h : RW X Y Z T a) : OnC a := by
  rcases h with h | h
  · exact h.on
  rw [h.2.2.2.2]; exact Z7d
theorem Y1e : RW 0 0 0 0 p0 := .inr ⟨rfl, rfl, rfl, rfl, rfl⟩
theorem RW.x (h : RW X Y Z T a) : X < Q7 := by
  rcases h with h | h
  · exact Z5 h.x
  rw [h.1]; decide
theorem RW.y (h : RW X Y Z T a) : Y < Q7 := by
  rcases h with h | h
  · exact Z5 h.y
  rw [h.2.1]; decide
theorem RW.z (h : RW X Y Z T a) : Z < Q7 := by
  rcases h with h | h
  · exact Z5 h.z
  rw [h.2.2.1]; decide
theorem RW.t (h : RW X Y Z T a) : T < Q7 := by
  rcases h with h | h
  · exact Z5 h.t
  rw [h.2.2.2.1]; decide
theorem RN.nz (h : RN X Y Z T a) : Z ≠ 0 := fun e => h.rc.1 (by rw [e]; rfl)
theorem RW.cases (h : RW X Y Z T a) : (Z ≠ 0 ∧ RN X Y Z T a) ∨ (Z = 0 ∧ a = p0) := by
  rcases h with h | h
  · exact .inl ⟨h.nz, h⟩
  exact .inr ⟨h.2.2.1, h.2.2.2.2⟩
theorem rn_p0 : RN 0 1 1 0 p0 := ⟨by decide, by decide, by decide, by decide, Z7d, by
  refine ⟨by decide +kernel, ?_, ?_, ?_⟩ <;> decide +kernel⟩
theorem RN.rr (h : RN X Y Z T a) : RD X Y Z a := ⟨h.x, h.y, h.z, h.on, h.rc.rr⟩
theorem J87 (A B : Nat) : fp ((A + (PP - B % PP)) % PP) = fp A - fp B := by rw [J0x, J8w, J7n]; grind
theorem J2v (A B : Nat) : fp ((A + B) % PP) = fp A + fp B := by rw [J0x, J8w]
theorem J0d (A B : Nat) : fp (A * B % PP) = fp A * fp B := by rw [J0x, J1p]
theorem Q65 (A : Nat) : fp ((PP - A % PP) % PP) = - fp A := by rw [J0x, J7n]
theorem Z6y {X1 Y1 Z1 T1 X2 Y2 Z2 T2 s1 s2 A a1 a2 B m C zz D E F G H x y z t : Nat} {p q : Pr} (r1 : RN X1 Y1 Z1 T1 p) (r2 : RN X2 Y2 Z2 T2 q)
    (e1 : s1 = (Y1 + (PP - X1 % PP)) % PP) (e2 : s2 = (Y2 + (PP - X2 % PP)) % PP) (eA : A = s1 * s2 % PP) (e3 : a1 = (Y1 + X1) % PP) (e4 : a2 = (Y2 + X2) % PP) (eB : B = a1 * a2 % PP)
    (e5 : m = T1 * D2 % PP) (eC : C = m * T2 % PP) (e6 : zz = (Z1 + Z1) % PP) (eD : D = zz * Z2 % PP) (eE : E = (B + (PP - A % PP)) % PP) (eF : F = (D + (PP - C % PP)) % PP) (eG : G = (D + C) % PP) (eH : H = (B + A) % PP)
    (ex : x = E * F % PP) (ey : y = G * H % PP) (ez : z = F * G % PP) (et : t = E * H % PP) : RN x y z t (J12 p q) := by
  have k := Y7u (A := fp A) (B := fp B) (C := fp C) (D := fp D) r1.on r2.on r1.rc r2.rc (by rw [eA, J0d, e1, e2, J87, J87]) (by rw [eB, J0d, e3, e4, J2v, J2v])
    (by rw [eC, J0d, e5, J0d, V1c]) (by rw [eD, J0d, e6, J2v])
  refine ⟨ex ▸ J23 _, ey ▸ J23 _, ez ▸ J23 _, et ▸ J23 _, J86 r1.on r2.on, ?_⟩
  rw [ex, ey, ez, et, J0d, J0d, J0d, J0d, eE, eF, eG, eH, J87, J87, J2v, J2v]
  exact k
theorem Q7j {A B c C H S q E G F x y z t : Nat} (r : RN X Y Z T a) (eA : A = X * X % PP) (eB : B = Y * Y % PP) (e1 : c = Z * Z % PP) (eC : C = (c + c) % PP) (eH : H = (A + B) % PP) (eS : S = (X + Y) % PP) (e2 : q = S * S % PP)
    (eE : E = (H + (PP - q % PP)) % PP) (eG : G = (A + (PP - B % PP)) % PP) (eF : F = (C + G) % PP) (ex : x = E * F % PP) (ey : y = G * H % PP) (ez : z = F * G % PP) (et : t = E * H % PP) : RN x y z t (J12 a a) := by
  have k := Z7f (A := fp A) (B := fp B) (C := fp C) (E := fp E) (G := fp G) (H := fp H) (F := fp F) r.on r.rc (by rw [eA, J0d]) (by rw [eB, J0d]) (by rw [eC, J2v, e1, J0d]) (by rw [eH, J2v])
    (by rw [eE, J87, e2, J0d, eS, J2v]) (by rw [eG, J87]) (by rw [eF, J2v])
  refine ⟨ex ▸ J23 _, ey ▸ J23 _, ez ▸ J23 _, et ▸ J23 _, J86 r.on r.on, ?_⟩
  rw [ex, ey, ez, et, J0d, J0d, J0d, J0d]
  exact k
theorem Y78 {x t : Nat} (r : RN X Y Z T a) (ex : x = (PP - X % PP) % PP) (et : t = (PP - T % PP) % PP) : RN x Y Z t (J5c a) := by
  refine ⟨ex ▸ J23 _, r.y, r.z, et ▸ J23 _, Q1h r.on, ?_⟩
  obtain ⟨h1, h2, h3, h4⟩ := r.rc
  rw [ex, et, Q65, Q65]
  refine ⟨h1, ?_, h3, ?_⟩
  · show -fp X = -a.1 * fp Z
    rw [h2]; grind
  show -fp T = -a.1 * a.2 * fp Z
  rw [h4]; grind
theorem Z6s {t : Nat} (hX : X < PP) (hY : Y < PP) (on : OnC (fp X, fp Y)) (et : t = X * Y % PP) : RN X Y 1 t (fp X, fp Y) := by
  refine ⟨hX, hY, by decide, et ▸ J23 _, on, ?_⟩
  rw [et, J0d, Q0b]
  refine ⟨by decide +kernel, ?_, ?_, ?_⟩
  · show fp X = fp X * 1
    grind
  · show fp Y = fp Y * 1
    grind
  show fp X * fp Y = fp X * fp Y * 1
  grind
theorem Y7j {X1 Y1 Z1 X2 Y2 Z2 A B C D q E F G s1 s2 S af cd u x ag y z : Nat} {p q' : Pr} (r1 : RD X1 Y1 Z1 p) (r2 : RD X2 Y2 Z2 q')
    (eA : A = Z1 * Z2 % PP) (eB : B = A * A % PP) (eC : C = X1 * X2 % PP) (eD : D = Y1 * Y2 % PP) (e1 : q = C * D % PP) (eE : E = DD * q % PP) (eF : F = (B + (PP - E) % PP) % PP) (eG : G = (B + E) % PP)
    (e2 : s1 = (X1 + Y1) % PP) (e3 : s2 = (X2 + Y2) % PP) (eS : S = s1 * s2 % PP) (e4 : af = A * F % PP) (e5 : cd = (C + D) % PP) (e6 : u = (S + (PP - cd) % PP) % PP) (ex : x = af * u % PP) (e7 : ag = A * G % PP) (ey : y = ag * cd % PP) (ez : z = F * G % PP) : RD x y z (J12 p q') := by
  have hE : E % PP = E := Nat.mod_eq_of_lt (eE ▸ J23 _)
  have hc : cd % PP = cd := Nat.mod_eq_of_lt (e5 ▸ J23 _)
  rw [← hE] at eF
  rw [← hc] at e6
  have fs : ∀ U V : Nat, fp ((U + (PP - V % PP) % PP) % PP) = fp U - fp V := fun U V => by rw [J0x, J8w, J0x, J7n]; grind
  have k := Y7v (A := fp A) (B := fp B) (C := fp C) (D := fp D) (E := fp E) (F := fp F) (G := fp G) (S := fp S) r1.on r2.on r1.rr r2.rr (by rw [eA, J0d]) (by rw [eB, J0d]) (by rw [eC, J0d]) (by rw [eD, J0d])
    (by rw [eE, J0d, e1, J0d]; rfl) (by rw [eF, fs]) (by rw [eG, J2v]) (by rw [eS, J0d, e2, e3, J2v, J2v])
  refine ⟨ex ▸ J23 _, ey ▸ J23 _, ez ▸ J23 _, J86 r1.on r2.on, ?_⟩
  rw [ex, ey, ez, J0d, J0d, J0d, e4, e6, e7, J0d, fs, J0d, e5, J2v]
  exact k
theorem Y7i {x : Nat} (r : RD X Y Z a) (ex : x = (PP - X) % PP) : RD x Y Z (J5c a) := by
  have hx : X % PP = X := Nat.mod_eq_of_lt r.x
  rw [← hx] at ex
  refine ⟨ex ▸ J23 _, r.y, r.z, Q1h r.on, ?_⟩
  obtain ⟨h1, h2, h3⟩ := r.rr
  rw [ex, Q65]
  refine ⟨h1, ?_, h3⟩
  show -fp X = -a.1 * fp Z
  rw [h2]; grind
theorem Z73 (hX : X < PP) (hY : Y < PP) (on : OnC (fp X, fp Y)) : RD X Y 1 (fp X, fp Y) := (Z6s hX hY on rfl).rr
theorem Q5s {i x y : Nat} (r : RD X Y Z a) (ei : i = pw Z (PP - 2)) (ex : x = X * i % PP) (ey : y = Y * i % PP) : x = a.1.val ∧ y = a.2.val := by
  have k := Y7w r.rr
  have hi : fp i = J3x (fp Z) := by
    rw [ei, V15]
    show _ = fp ((fp Z).val ^ (PP - 2))
    rw [Y7o, Nat.mod_eq_of_lt r.z]
  rw [← hi, ← J1p, ← J1p] at k
  rw [ex, ey]
  exact ⟨congrArg Fin.val k.1, congrArg Fin.val k.2⟩
end
theorem Y7z {w W : World} (h : GI w) (e : Ext w W) : GI W := Rd.ext (show Rd w 12 imaC from h) e
structure Kn where
  d : Prop
  b : Prop
  c : Prop
  r : Prop
abbrev GE (kn : Kn) (w : World) : Prop := GF w ∧ (kn.c → GI w) ∧ (kn.c → Rd w 8 (c4 DD)) ∧ (kn.d → Rd w 9 (c4 D2)) ∧ (kn.b → Rd w 5 (c4 BX)) ∧ (kn.b → Rd w 6 (c4 BY))
theorem Q8 {kn : Kn} {w W : World} (h : GE kn w) (k : Ext w W) : GE kn W := ⟨Z4 h.1 k, fun x => Y7z (h.2.1 x) k, fun x => (h.2.2.1 x).ext k, fun x => (h.2.2.2.1 x).ext k, fun x => (h.2.2.2.2.1 x).ext k, fun x => (h.2.2.2.2.2 x).ext k⟩
end

section

theorem Z7j : ∀ a, a < 256 → a &&& 128 = if 128 ≤ a then 128 else 0 := by decide +kernel
theorem V1d : ∀ a, a < 128 → a ||| 128 = a + 128 := by decide +kernel
theorem Y20 : ∀ a, a < 256 → a &&& (255 - 128) = a % 128 := by decide +kernel
theorem Y80 : ∀ a, a < 256 → a &&& 127 = a % 128 := by decide +kernel
section
variable {P : Program} {w : World} {o : Oper} {a : Act} {x y : Operand} {t t' : TypeId} {p q r : Int}
theorem J30 (h : bits .and .u8 p q = r) (ho : o.op = .binOp .and t x y t') (hx : a.eval x = .int .u8 p) (hy : a.eval y = .int .u8 q) : (execOp a.eval o).run P w = .ok (.value (.int .u8 r)) w := by
  subst h; simp only [execOp, ho, hx, hy]; rfl
theorem Z1e (h : bits .or .u8 p q = r) (ho : o.op = .binOp .or t x y t') (hx : a.eval x = .int .u8 p) (hy : a.eval y = .int .u8 q) : (execOp a.eval o).run P w = .ok (.value (.int .u8 r)) w := by
  subst h; simp only [execOp, ho, hx, hy]; rfl
theorem J85 (h : bits .andNot .u8 p q = r) (ho : o.op = .binOp .andNot t x y t') (hx : a.eval x = .int .u8 p) (hy : a.eval y = .int .u8 q) : (execOp a.eval o).run P w = .ok (.value (.int .u8 r)) w := by
  subst h; simp only [execOp, ho, hx, hy]; rfl
end
theorem Q2v {V : Nat} (hV : V < 2 ^ 256) : Q3 V 31 = ((V / 2 ^ 248 : Nat) : Int) ∧ V / 2 ^ 248 < 256 := by
  have h : V / 2 ^ 248 < 256 := Nat.div_lt_of_lt_mul (by rw [← show (2 : Nat) ^ 256 = 2 ^ 248 * 256 by decide]; exact hV)
  unfold Q3
  rw [show 8 * 31 = 248 by decide, Nat.mod_eq_of_lt h]
  exact ⟨rfl, h⟩
theorem Q5v (V : Nat) : top V = true ↔ 128 ≤ V / 2 ^ 248 := by
  unfold top
  rw [decide_eq_true_iff]
  generalize hP : (2 : Nat) ^ 248 = P
  have e : (2 : Nat) ^ 255 = 128 * P := by rw [← hP]
  rw [e, Nat.le_div_iff_mul_le (by subst hP; decide)]
theorem Z1g {V : Nat} (hV : V < 2 ^ 256) (ht : top V = true) : bits .and .u8 (Q3 V 31) 128 = 128 := by
  obtain ⟨h1, h2⟩ := Q2v hV
  rw [h1]
  refine (u8_and_nat _ 128 h2 (by decide)).trans ?_
  rw [Z7j _ h2, if_pos ((Q5v V).1 ht)]; rfl
theorem Z1h {V : Nat} (hV : V < 2 ^ 256) (ht : ¬ top V = true) : bits .and .u8 (Q3 V 31) 128 = 0 := by
  obtain ⟨h1, h2⟩ := Q2v hV
  rw [h1]
  refine (u8_and_nat _ 128 h2 (by decide)).trans ?_
  rw [Z7j _ h2, if_neg fun h => ht ((Q5v V).2 h)]; rfl
theorem Z1r {V j : Nat} (hj : j < 31) : Q3 (V % 2 ^ 255) j = Q3 V j := by
  unfold Q3
  congr 1
  obtain ⟨d, hd⟩ : ∃ d, 255 = 8 * j + (8 + d) := ⟨247 - 8 * j, by omega⟩
  rw [hd, Nat.pow_add 2 (8 * j), Nat.mod_mul_right_div_self, Nat.pow_add 2 8 d, Nat.mod_mul_right_mod]
theorem Y21 (V : Nat) : Q3 (V % 2 ^ 255) 31 = ((V / 2 ^ 248 % 128 : Nat) : Int) := by
  unfold Q3
  congr 1
  rw [show 8 * 31 = 248 by decide, show (2 : Nat) ^ 255 = 2 ^ 248 * 128 by decide, Nat.mod_mul_right_div_self]
  omega
theorem Q7l {V : Nat} {r : Int} (hr : r = ((V / 2 ^ 248 % 128 : Nat) : Int)) : J0 .u8 32 (upd (Q3 V) 31 r) = J0 .u8 32 (Q3 (V % 2 ^ 255)) := by
  apply K8
  intro j hj
  by_cases h : j = 31
  · subst h; rw [J1z, Y21]; exact hr
  rw [J0i _ _ _ _ h, Z1r (by omega)]
theorem Q1f {V : Nat} (hV : V < 2 ^ 256) : bits .andNot .u8 (Q3 V 31) 128 = ((V / 2 ^ 248 % 128 : Nat) : Int) := by
  obtain ⟨h1, h2⟩ := Q2v hV
  rw [h1]
  refine (u8_andNot_nat _ 128 h2 (by decide)).trans ?_
  rw [Y20 _ h2]
theorem Z72 {V : Nat} (hV : V < 2 ^ 256) : bits .and .u8 (Q3 V 31) 127 = ((V / 2 ^ 248 % 128 : Nat) : Int) := by
  obtain ⟨h1, h2⟩ := Q2v hV
  rw [h1]
  refine (u8_and_nat _ 127 h2 (by decide)).trans ?_
  rw [Y80 _ h2]
theorem Y22 {V : Nat} (hV : V < 2 ^ 255) : bits .or .u8 (Q3 V 31) 128 = Q3 (V + 2 ^ 255) 31 := by
  obtain ⟨h1, h2⟩ := Q2v (V := V) (Nat.lt_trans hV (by decide))
  obtain ⟨h3, h4⟩ := Q2v (V := V + 2 ^ 255) (by omega)
  have h5 : V / 2 ^ 248 < 128 := Nat.div_lt_of_lt_mul (by rw [← show (2 : Nat) ^ 255 = 2 ^ 248 * 128 by decide]; exact hV)
  rw [h1, h3]
  refine (u8_or_nat _ 128 h2 (by decide)).trans ?_
  rw [V1d _ h5, show (2 : Nat) ^ 255 = 2 ^ 248 * 128 by decide, Nat.add_mul_div_left _ _ (by decide)]
theorem Y5a {V : Nat} (hV : V < 2 ^ 255) : J0 .u8 32 (upd (Q3 V) 31 (bits .or .u8 (Q3 V 31) 128)) = J0 .u8 32 (Q3 (V + 2 ^ 255)) := by
  apply K8
  intro j hj
  by_cases h : j = 31
  · subst h; rw [J1z, Y22 hV]
  rw [J0i _ _ _ _ h, ← Z1r (V := V + 2 ^ 255) (by omega), Nat.add_mod_right, Nat.mod_eq_of_lt hV]
end

section
section
variable {w : World} {o : Oper} {a : Act} {x y : Operand} {t t' : TypeId}
theorem J7l {l : List UInt8} {i : Nat} {c : UInt8} (h : l[i]? = some c) (ho : o.op = .index 9 x y) (hx : a.eval x = str l) (hy : a.eval y = .int .i64 (i : Int)) : (execOp a.eval o).run Tryz.prog w = .ok (.value (.int .u8 (c.toNat : Int))) w := by
  have hs := J5f l
  have hi := (List.getElem?_eq_some_iff.1 h).1
  have hg := (List.getElem?_eq_some_iff.1 h).2
  have D : (⟨l.toArray⟩ : ByteArray)[i]'(by rw [hs]; exact hi) = c := by
    show l.toArray[i]'(by simpa using hi) = c
    simpa using hg
  simp only [execOp, ho, hx, hy, str, Sem.run_bind]
  simp [Instr.index, asIntOf, run_underlying Tryz.underlying9, hs, hi, D, Sem.run_bind]
theorem J9s {n V j : Nat} (hj : j < n) (ho : o.op = .index 9 x y) (hx : a.eval x = str (lb n V)) (hy : a.eval y = .int .i64 (j : Int)) : (execOp a.eval o).run Tryz.prog w = .ok (.value (.int .u8 (Q3 V j))) w := by
  rw [← Q09]; exact J7l (Q2c hj) ho hx hy
theorem J9t {p q : Int} {b : Bool} (hb : decide (q ≤ p) = b) (ho : o.op = .binOp .geq t x y t') (hx : a.eval x = .int .u8 p) (hy : a.eval y = .int .u8 q) : (execOp a.eval o).run Tryz.prog w = .ok (.value (.bool b)) w := by
  subst hb
  simp only [execOp, ho, hx, hy, eqGuard, binOp, Sem.run_bind]
  simp [go_sem, Sem.run_bind]
theorem Z74 {i : Nat} (hi : i < 9223372036854775808) (ho : o.op = .binOp .sub t x y t') (hx : a.eval x = .int .i64 (i : Int)) (hy : a.eval y = .int .i64 1) : (execOp a.eval o).run Tryz.prog w = .ok (.value (.int .i64 ((i : Int) - 1))) w := by
  have h := IntWalk.i64_in ((i : Int) - 1) (by omega)
  simp only [execOp, ho, hx, hy, eqGuard, binOp, Sem.run_bind]
  simp [go_sem, Sem.run_bind, h]
theorem Q7q {p : Nat} {k : IntKind} {n : Nat} (hn : n ≤ 8) (ho : o.op = .binOp .shr t x y t') (hx : a.eval x = .int .u8 (p : Int)) (hy : a.eval y = .int k (n : Int)) : (execOp a.eval o).run Tryz.prog w = .ok (.value (.int .u8 ((p / 2 ^ n : Nat) : Int))) w := by
  have e : (p : Int) / 2 ^ n = ((p / 2 ^ n : Nat) : Int) := by rw [Int.natCast_ediv, Int.natCast_pow]; rfl
  rw [Q27 hn ho hx hy, e]
theorem J3k {N r : Nat} (h : N % 2 = r) (ho : o.op = .binOp .rem t x y t') (hx : a.eval x = .int .i64 (Q5 N 0)) (hy : a.eval y = .int .i64 2) : (execOp a.eval o).run Tryz.prog w = .ok (.value (.int .i64 (r : Int))) w := by
  have := Q26 (P := Tryz.prog) (w := w) (i := N / 2 ^ (16 * 0) % 65536) (m := 2) (by decide) (Nat.lt_trans (Nat.mod_lt _ (by decide)) (by decide)) ho hx hy
  rw [this, Nat.mul_zero, Nat.pow_zero, Nat.div_one, show N % 65536 % 2 = r by omega]
end
section
variable {ops : Array Oper} {w : World} {r : List Oper} {o : Oper} {a : Act} {E : Act → Prop}
end
theorem take_set {cs : Array Value} {V V' : Nat} {v : Value} (h : cs.toList.take 32 = bs8 (lb 32 V)) (he : (J0 .u8 32 (Q3 V)).setIfInBounds 31 v = J0 .u8 32 (Q3 V')) : (cs.setIfInBounds 31 v).toList.take 32 = bs8 (lb 32 V') := by
  rw [Array.toList_setIfInBounds, List.take_set, h, J72, J72, ← J2d, ← J2d, ← he, Array.toList_setIfInBounds]
theorem Z75 {l : List UInt8} {i k : Nat} {c : UInt8} (h : l[i]? = some c) (hk : k < 8) : c.toNat / 2 ^ k % 2 = le l / 2 ^ (8 * i + k) % 2 := by
  rw [← Z11 h, Nat.pow_add, ← Nat.div_div_eq_div_mul]
  generalize le l / 2 ^ (8 * i) = x
  obtain ⟨d, hd⟩ : ∃ d, 8 = k + (1 + d) := ⟨7 - k, by omega⟩
  rw [show 256 = 2 ^ 8 by decide, hd, Nat.pow_add 2 k, Nat.mod_mul_right_div_self, Nat.pow_add 2 1 d, Nat.pow_one, Nat.mod_mul_right_mod]
end
end Go.Proofs.YtejkmhgkkibafaaGreatDoor.S8
