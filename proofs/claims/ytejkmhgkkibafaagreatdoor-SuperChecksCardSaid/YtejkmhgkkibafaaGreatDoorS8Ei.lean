/- Contracts and plain laws that superChecks_holds rests on. Conditions: the variables' cells hold the numbers of the program's text. -/
import Derived.Test.YtejkmhgkkibafaaGreatDoorJ6
import Derived.Test.YtejkmhgkkibafaaGreatDoorJ3
import Derived.Test.YtejkmhgkkibafaaGreatDoorJ8
import Derived.Test.YtejkmhgkkibafaaGreatDoorS8Eg
import Derived.Test.YtejkmhgkkibafaaGreatDoorGc
import Derived.Test.YtejkmhgkkibafaaGreatDoorS8Eb
import Derived.Test.YtejkmhgkkibafaaGreatDoorS8Ee
import Derived.Laws.BitsAllLaws
open Go.RowKit
set_option linter.unusedSimpArgs false
set_option linter.unusedVariables false
namespace Go.Proofs.YtejkmhgkkibafaaGreatDoor.S8
section

def D2 : Nat := 16295367250680780974490674513165176452449235426866156013048779062215315747161
def BX : Nat := 15112221349535400772501151409588531511454012693041857206046113283949847762202
def BY : Nat := 46316835694926478169428394003475163141307993866256225615783033603165251855960
def BP : Pr := (fp BX, fp BY)
theorem J9a : OnC BP := by unfold OnC; decide +kernel
theorem V0r : fp D2 = 2 * dd := by decide +kernel
theorem Q7a : DD < Q5 := by decide
theorem V02 : D2 < Q5 := by decide
theorem Z0 {A : Nat} (h : A < PP) : A < Q5 := Nat.lt_trans h (by decide)
theorem J1w (A : Nat) : A % PP < PP := Nat.mod_lt _ J4e
theorem bpp {X n : Nat} (h : X = n % PP) : X < PP := h ▸ J1w n
def p4 (X Y Z T : Nat) : Array Value := c4 X ++ c4 Y ++ c4 Z ++ c4 T
def p3 (X Y Z : Nat) : Array Value := J0 .i64 16 (Q6 X) ++ J0 .i64 16 (Q6 Y) ++ J0 .i64 16 (Q6 Z)
section
variable {X Y Z T : Nat}
theorem Q3d : ∀ i v, (c4 X)[i]? = some v → (p4 X Y Z T)[0 + i]? = some v := fun i v h => by rw [Nat.zero_add]; exact J3o (J3o (J3o h))
theorem Q5e : ∀ i v, (c4 Y)[i]? = some v → (p4 X Y Z T)[4 + i]? = some v := fun i v h => J3o (J3o (J6l rfl h))
theorem Q5d : ∀ i v, (c4 Z)[i]? = some v → (p4 X Y Z T)[8 + i]? = some v := fun i v h => J3o (J6l rfl h)
theorem Y6k : ∀ i v, (c4 T)[i]? = some v → (p4 X Y Z T)[12 + i]? = some v := fun i v h => J6l rfl h
theorem s16 {f : Nat → Int} : (J0 .i64 16 f).size = 16 := J1 _ _ _
theorem Z35 : ∀ i v, (J0 .i64 16 (Q6 X))[i]? = some v → (p3 X Y Z)[0 + i]? = some v := fun i v h => by rw [Nat.zero_add]; exact J3o (J3o h)
theorem Z36 : ∀ i v, (J0 .i64 16 (Q6 Y))[i]? = some v → (p3 X Y Z)[16 + i]? = some v := fun i v h => J3o (J6l s16 h)
theorem Y0y : ∀ i v, (J0 .i64 16 (Q6 Z))[i]? = some v → (p3 X Y Z)[32 + i]? = some v := fun i v h => J6l (by rw [Array.size_append, s16, s16]) h
theorem Q7 : (p3 X Y Z).size = 48 := by unfold p3; rw [Array.size_append, Array.size_append, s16, s16, s16]
theorem J1x : (p3 X Y Z).all (·.oneCell') = true := by
  unfold p3
  rw [Array.all_append, Array.all_append, Z9, Z9, Z9]; rfl
end
structure RN (X Y Z T : Nat) (a : Pr) : Prop where
  x : X < PP
  y : Y < PP
  z : Z < PP
  t : T < PP
  on : OnC a
  rc : Rc (fp X) (fp Y) (fp Z) (fp T) a
def RW (X Y Z T : Nat) (a : Pr) : Prop := RN X Y Z T a ∨ (X = 0 ∧ Y = 0 ∧ Z = 0 ∧ T = 0 ∧ a = p0)
structure RD (X Y Z : Nat) (a : Pr) : Prop where
  x : X < PP
  y : Y < PP
  z : Z < PP
  on : OnC a
  rr : Rr (fp X) (fp Y) (fp Z) a
section
variable {X Y Z T : Nat} {a : Pr}
theorem RN.rw (h : RN X Y Z T a) : RW X Y Z T a := .inl h
theorem RW.on (h : RW X Y Z T a) : OnC a := by
  rcases h with h | h
  · exact h.on
  rw [h.2.2.2.2]; exact Z6v
theorem Y0w : RW 0 0 0 0 p0 := .inr ⟨rfl, rfl, rfl, rfl, rfl⟩
theorem RW.x (h : RW X Y Z T a) : X < Q5 := by
  rcases h with h | h
  · exact Z0 h.x
  rw [h.1]; decide
theorem RW.y (h : RW X Y Z T a) : Y < Q5 := by
  rcases h with h | h
  · exact Z0 h.y
  rw [h.2.1]; decide
theorem RW.z (h : RW X Y Z T a) : Z < Q5 := by
  rcases h with h | h
  · exact Z0 h.z
  rw [h.2.2.1]; decide
theorem RW.t (h : RW X Y Z T a) : T < Q5 := by
  rcases h with h | h
  · exact Z0 h.t
  rw [h.2.2.2.1]; decide
theorem RN.nz (h : RN X Y Z T a) : Z ≠ 0 := fun e => h.rc.1 (by rw [e]; rfl)
theorem RW.cases (h : RW X Y Z T a) : (Z ≠ 0 ∧ RN X Y Z T a) ∨ (Z = 0 ∧ a = p0) := by
  rcases h with h | h
  · exact .inl ⟨h.nz, h⟩
  exact .inr ⟨h.2.2.1, h.2.2.2.2⟩
theorem rn_p0 : RN 0 1 1 0 p0 := ⟨by decide, by decide, by decide, by decide, Z6v, by
  refine ⟨by decide +kernel, ?_, ?_, ?_⟩ <;> decide +kernel⟩
theorem RN.rr (h : RN X Y Z T a) : RD X Y Z a := ⟨h.x, h.y, h.z, h.on, h.rc.rr⟩
theorem J7z (A B : Nat) : fp ((A + (PP - B % PP)) % PP) = fp A - fp B := by rw [J0q, J8m, J7f]; grind
theorem J2n (A B : Nat) : fp ((A + B) % PP) = fp A + fp B := by rw [J0q, J8m]
theorem J04 (A B : Nat) : fp (A * B % PP) = fp A * fp B := by rw [J0q, J1h]
theorem Q5t (A : Nat) : fp ((PP - A % PP) % PP) = - fp A := by rw [J0q, J7f]
theorem Z6i {X1 Y1 Z1 T1 X2 Y2 Z2 T2 s1 s2 A a1 a2 B m C zz D E F G H x y z t : Nat} {p q : Pr} (r1 : RN X1 Y1 Z1 T1 p) (r2 : RN X2 Y2 Z2 T2 q)
    (e1 : s1 = (Y1 + (PP - X1 % PP)) % PP) (e2 : s2 = (Y2 + (PP - X2 % PP)) % PP) (eA : A = s1 * s2 % PP) (e3 : a1 = (Y1 + X1) % PP) (e4 : a2 = (Y2 + X2) % PP) (eB : B = a1 * a2 % PP)
    (e5 : m = T1 * D2 % PP) (eC : C = m * T2 % PP) (e6 : zz = (Z1 + Z1) % PP) (eD : D = zz * Z2 % PP) (eE : E = (B + (PP - A % PP)) % PP) (eF : F = (D + (PP - C % PP)) % PP) (eG : G = (D + C) % PP) (eH : H = (B + A) % PP)
    (ex : x = E * F % PP) (ey : y = G * H % PP) (ez : z = F * G % PP) (et : t = E * H % PP) : RN x y z t (J0w p q) := by
  have k := Y78 (A := fp A) (B := fp B) (C := fp C) (D := fp D) r1.on r2.on r1.rc r2.rc (by rw [eA, J04, e1, e2, J7z, J7z]) (by rw [eB, J04, e3, e4, J2n, J2n])
    (by rw [eC, J04, e5, J04, V0r]) (by rw [eD, J04, e6, J2n])
  refine ⟨ex ▸ J1w _, ey ▸ J1w _, ez ▸ J1w _, et ▸ J1w _, J7y r1.on r2.on, ?_⟩
  rw [ex, ey, ez, et, J04, J04, J04, J04, eE, eF, eG, eH, J7z, J7z, J2n, J2n]
  exact k
theorem Q79 {A B c C H S q E G F x y z t : Nat} (r : RN X Y Z T a) (eA : A = X * X % PP) (eB : B = Y * Y % PP) (e1 : c = Z * Z % PP) (eC : C = (c + c) % PP) (eH : H = (A + B) % PP) (eS : S = (X + Y) % PP) (e2 : q = S * S % PP)
    (eE : E = (H + (PP - q % PP)) % PP) (eG : G = (A + (PP - B % PP)) % PP) (eF : F = (C + G) % PP) (ex : x = E * F % PP) (ey : y = G * H % PP) (ez : z = F * G % PP) (et : t = E * H % PP) : RN x y z t (J0w a a) := by
  have k := Z6x (A := fp A) (B := fp B) (C := fp C) (E := fp E) (G := fp G) (H := fp H) (F := fp F) r.on r.rc (by rw [eA, J04]) (by rw [eB, J04]) (by rw [eC, J2n, e1, J04]) (by rw [eH, J2n])
    (by rw [eE, J7z, e2, J04, eS, J2n]) (by rw [eG, J7z]) (by rw [eF, J2n])
  refine ⟨ex ▸ J1w _, ey ▸ J1w _, ez ▸ J1w _, et ▸ J1w _, J7y r.on r.on, ?_⟩
  rw [ex, ey, ez, et, J04, J04, J04, J04]
  exact k
theorem Y6m {x t : Nat} (r : RN X Y Z T a) (ex : x = (PP - X % PP) % PP) (et : t = (PP - T % PP) % PP) : RN x Y Z t (J52 a) := by
  refine ⟨ex ▸ J1w _, r.y, r.z, et ▸ J1w _, Q17 r.on, ?_⟩
  obtain ⟨h1, h2, h3, h4⟩ := r.rc
  rw [ex, et, Q5t, Q5t]
  refine ⟨h1, ?_, h3, ?_⟩
  · show -fp X = -a.1 * fp Z
    rw [h2]; grind
  show -fp T = -a.1 * a.2 * fp Z
  rw [h4]; grind
theorem Z6d {t : Nat} (hX : X < PP) (hY : Y < PP) (on : OnC (fp X, fp Y)) (et : t = X * Y % PP) : RN X Y 1 t (fp X, fp Y) := by
  refine ⟨hX, hY, by decide, et ▸ J1w _, on, ?_⟩
  rw [et, J04, Q00]
  refine ⟨by decide +kernel, ?_, ?_, ?_⟩
  · show fp X = fp X * 1
    grind
  · show fp Y = fp Y * 1
    grind
  show fp X * fp Y = fp X * fp Y * 1
  grind
theorem Y6x {X1 Y1 Z1 X2 Y2 Z2 A B C D q E F G s1 s2 S af cd u x ag y z : Nat} {p q' : Pr} (r1 : RD X1 Y1 Z1 p) (r2 : RD X2 Y2 Z2 q')
    (eA : A = Z1 * Z2 % PP) (eB : B = A * A % PP) (eC : C = X1 * X2 % PP) (eD : D = Y1 * Y2 % PP) (e1 : q = C * D % PP) (eE : E = DD * q % PP) (eF : F = (B + (PP - E) % PP) % PP) (eG : G = (B + E) % PP)
    (e2 : s1 = (X1 + Y1) % PP) (e3 : s2 = (X2 + Y2) % PP) (eS : S = s1 * s2 % PP) (e4 : af = A * F % PP) (e5 : cd = (C + D) % PP) (e6 : u = (S + (PP - cd) % PP) % PP) (ex : x = af * u % PP) (e7 : ag = A * G % PP) (ey : y = ag * cd % PP) (ez : z = F * G % PP) : RD x y z (J0w p q') := by
  have hE : E % PP = E := Nat.mod_eq_of_lt (eE ▸ J1w _)
  have hc : cd % PP = cd := Nat.mod_eq_of_lt (e5 ▸ J1w _)
  rw [← hE] at eF
  rw [← hc] at e6
  have fs : ∀ U V : Nat, fp ((U + (PP - V % PP) % PP) % PP) = fp U - fp V := fun U V => by rw [J0q, J8m, J0q, J7f]; grind
  have k := Y79 (A := fp A) (B := fp B) (C := fp C) (D := fp D) (E := fp E) (F := fp F) (G := fp G) (S := fp S) r1.on r2.on r1.rr r2.rr (by rw [eA, J04]) (by rw [eB, J04]) (by rw [eC, J04]) (by rw [eD, J04])
    (by rw [eE, J04, e1, J04]; rfl) (by rw [eF, fs]) (by rw [eG, J2n]) (by rw [eS, J04, e2, e3, J2n, J2n])
  refine ⟨ex ▸ J1w _, ey ▸ J1w _, ez ▸ J1w _, J7y r1.on r2.on, ?_⟩
  rw [ex, ey, ez, J04, J04, J04, e4, e6, e7, J04, fs, J04, e5, J2n]
  exact k
theorem Y6w {x : Nat} (r : RD X Y Z a) (ex : x = (PP - X) % PP) : RD x Y Z (J52 a) := by
  have hx : X % PP = X := Nat.mod_eq_of_lt r.x
  rw [← hx] at ex
  refine ⟨ex ▸ J1w _, r.y, r.z, Q17 r.on, ?_⟩
  obtain ⟨h1, h2, h3⟩ := r.rr
  rw [ex, Q5t]
  refine ⟨h1, ?_, h3⟩
  show -fp X = -a.1 * fp Z
  rw [h2]; grind
theorem Z6n (hX : X < PP) (hY : Y < PP) (on : OnC (fp X, fp Y)) : RD X Y 1 (fp X, fp Y) := (Z6d hX hY on rfl).rr
theorem Q5g {i x y : Nat} (r : RD X Y Z a) (ei : i = pw Z (PP - 2)) (ex : x = X * i % PP) (ey : y = Y * i % PP) : x = a.1.val ∧ y = a.2.val := by
  have k := Y7a r.rr
  have hi : fp i = J3n (fp Z) := by
    rw [ei, V0k]
    show _ = fp ((fp Z).val ^ (PP - 2))
    rw [Y72, Nat.mod_eq_of_lt r.z]
  rw [← hi, ← J1h, ← J1h] at k
  rw [ex, ey]
  exact ⟨congrArg Fin.val k.1, congrArg Fin.val k.2⟩
end
theorem Y7d {w W : World} (h : GI w) (e : Ext w W) : GI W := Rd.ext (show Rd w 12 imaC from h) e
structure Kn where
  d : Prop
  b : Prop
  c : Prop
  r : Prop
abbrev GE (kn : Kn) (w : World) : Prop := GF w ∧ (kn.c → GI w) ∧ (kn.c → Rd w 8 (c4 DD)) ∧ (kn.d → Rd w 9 (c4 D2)) ∧ (kn.b → Rd w 5 (c4 BX)) ∧ (kn.b → Rd w 6 (c4 BY))
theorem Q8 {kn : Kn} {w W : World} (h : GE kn w) (k : Ext w W) : GE kn W := ⟨V6 h.1 k, fun x => Y7d (h.2.1 x) k, fun x => (h.2.2.1 x).ext k, fun x => (h.2.2.2.1 x).ext k, fun x => (h.2.2.2.2.1 x).ext k, fun x => (h.2.2.2.2.2 x).ext k⟩
end

section

theorem Z71 : ∀ a, a < 256 → a &&& 128 = if 128 ≤ a then 128 else 0 := by decide +kernel
theorem V0s : ∀ a, a < 128 → a ||| 128 = a + 128 := by decide +kernel
theorem Y1f : ∀ a, a < 256 → a &&& (255 - 128) = a % 128 := by decide +kernel
theorem Y7e : ∀ a, a < 256 → a &&& 127 = a % 128 := by decide +kernel
section
variable {P : Program} {w : World} {o : Oper} {a : Act} {x y : Operand} {t t' : TypeId} {p q r : Int}
theorem J2r (h : bits .and .u8 p q = r) (ho : o.op = .binOp .and t x y t') (hx : a.eval x = .int .u8 p) (hy : a.eval y = .int .u8 q) : (execOp a.eval o).run P w = .ok (.value (.int .u8 r)) w := by
  subst h; simp only [execOp, ho, hx, hy]; rfl
theorem Z11 (h : bits .or .u8 p q = r) (ho : o.op = .binOp .or t x y t') (hx : a.eval x = .int .u8 p) (hy : a.eval y = .int .u8 q) : (execOp a.eval o).run P w = .ok (.value (.int .u8 r)) w := by
  subst h; simp only [execOp, ho, hx, hy]; rfl
theorem J7x (h : bits .andNot .u8 p q = r) (ho : o.op = .binOp .andNot t x y t') (hx : a.eval x = .int .u8 p) (hy : a.eval y = .int .u8 q) : (execOp a.eval o).run P w = .ok (.value (.int .u8 r)) w := by
  subst h; simp only [execOp, ho, hx, hy]; rfl
end
theorem Q2m {V : Nat} (hV : V < 2 ^ 256) : Q3 V 31 = ((V / 2 ^ 248 : Nat) : Int) ∧ V / 2 ^ 248 < 256 := by
  have h : V / 2 ^ 248 < 256 := Nat.div_lt_of_lt_mul (by rw [← show (2 : Nat) ^ 256 = 2 ^ 248 * 256 by decide]; exact hV)
  unfold Q3
  rw [show 8 * 31 = 248 by decide, Nat.mod_eq_of_lt h]
  exact ⟨rfl, h⟩
theorem Q5j (V : Nat) : top V = true ↔ 128 ≤ V / 2 ^ 248 := by
  unfold top
  rw [decide_eq_true_iff]
  generalize hP : (2 : Nat) ^ 248 = P
  have e : (2 : Nat) ^ 255 = 128 * P := by rw [← hP]
  rw [e, Nat.le_div_iff_mul_le (by subst hP; decide)]
theorem Z13 {V : Nat} (hV : V < 2 ^ 256) (ht : top V = true) : bits .and .u8 (Q3 V 31) 128 = 128 := by
  obtain ⟨h1, h2⟩ := Q2m hV
  rw [h1]
  refine (u8_and_nat _ 128 h2 (by decide)).trans ?_
  rw [Z71 _ h2, if_pos ((Q5j V).1 ht)]; rfl
theorem Z14 {V : Nat} (hV : V < 2 ^ 256) (ht : ¬ top V = true) : bits .and .u8 (Q3 V 31) 128 = 0 := by
  obtain ⟨h1, h2⟩ := Q2m hV
  rw [h1]
  refine (u8_and_nat _ 128 h2 (by decide)).trans ?_
  rw [Z71 _ h2, if_neg fun h => ht ((Q5j V).2 h)]; rfl
theorem Z1e {V j : Nat} (hj : j < 31) : Q3 (V % 2 ^ 255) j = Q3 V j := by
  unfold Q3
  congr 1
  obtain ⟨d, hd⟩ : ∃ d, 255 = 8 * j + (8 + d) := ⟨247 - 8 * j, by omega⟩
  rw [hd, Nat.pow_add 2 (8 * j), Nat.mod_mul_right_div_self, Nat.pow_add 2 8 d, Nat.mod_mul_right_mod]
theorem Y1g (V : Nat) : Q3 (V % 2 ^ 255) 31 = ((V / 2 ^ 248 % 128 : Nat) : Int) := by
  unfold Q3
  congr 1
  rw [show 8 * 31 = 248 by decide, show (2 : Nat) ^ 255 = 2 ^ 248 * 128 by decide, Nat.mod_mul_right_div_self]
  omega
theorem Q7b {V : Nat} {r : Int} (hr : r = ((V / 2 ^ 248 % 128 : Nat) : Int)) : J0 .u8 32 (upd (Q3 V) 31 r) = J0 .u8 32 (Q3 (V % 2 ^ 255)) := by
  apply K5
  intro j hj
  by_cases h : j = 31
  · subst h; rw [J1t, Y1g]; exact hr
  rw [J0b _ _ _ _ h, Z1e (by omega)]
theorem Q15 {V : Nat} (hV : V < 2 ^ 256) : bits .andNot .u8 (Q3 V 31) 128 = ((V / 2 ^ 248 % 128 : Nat) : Int) := by
  obtain ⟨h1, h2⟩ := Q2m hV
  rw [h1]
  refine (u8_andNot_nat _ 128 h2 (by decide)).trans ?_
  rw [Y1f _ h2]
theorem Z6m {V : Nat} (hV : V < 2 ^ 256) : bits .and .u8 (Q3 V 31) 127 = ((V / 2 ^ 248 % 128 : Nat) : Int) := by
  obtain ⟨h1, h2⟩ := Q2m hV
  rw [h1]
  refine (u8_and_nat _ 127 h2 (by decide)).trans ?_
  rw [Y7e _ h2]
theorem Y1h {V : Nat} (hV : V < 2 ^ 255) : bits .or .u8 (Q3 V 31) 128 = Q3 (V + 2 ^ 255) 31 := by
  obtain ⟨h1, h2⟩ := Q2m (V := V) (Nat.lt_trans hV (by decide))
  obtain ⟨h3, h4⟩ := Q2m (V := V + 2 ^ 255) (by omega)
  have h5 : V / 2 ^ 248 < 128 := Nat.div_lt_of_lt_mul (by rw [← show (2 : Nat) ^ 255 = 2 ^ 248 * 128 by decide]; exact hV)
  rw [h1, h3]
  refine (u8_or_nat _ 128 h2 (by decide)).trans ?_
  rw [V0s _ h5, show (2 : Nat) ^ 255 = 2 ^ 248 * 128 by decide, Nat.add_mul_div_left _ _ (by decide)]
theorem Y4q {V : Nat} (hV : V < 2 ^ 255) : J0 .u8 32 (upd (Q3 V) 31 (bits .or .u8 (Q3 V 31) 128)) = J0 .u8 32 (Q3 (V + 2 ^ 255)) := by
  apply K5
  intro j hj
  by_cases h : j = 31
  · subst h; rw [J1t, Y1h hV]
  rw [J0b _ _ _ _ h, ← Z1e (V := V + 2 ^ 255) (by omega), Nat.add_mod_right, Nat.mod_eq_of_lt hV]
end

section
section
variable {w : World} {o : Oper} {a : Act} {x y : Operand} {t t' : TypeId}
theorem J7d {l : List UInt8} {i : Nat} {c : UInt8} (h : l[i]? = some c) (ho : o.op = .index 9 x y) (hx : a.eval x = str l) (hy : a.eval y = .int .i64 (i : Int)) : (execOp a.eval o).run Tryz.prog w = .ok (.value (.int .u8 (c.toNat : Int))) w := by
  have hs := J55 l
  have hi := (List.getElem?_eq_some_iff.1 h).1
  have hg := (List.getElem?_eq_some_iff.1 h).2
  have D : (⟨l.toArray⟩ : ByteArray)[i]'(by rw [hs]; exact hi) = c := by
    show l.toArray[i]'(by simpa using hi) = c
    simpa using hg
  simp only [execOp, ho, hx, hy, str, Sem.run_bind]
  simp [Instr.index, asIntOf, run_underlying Tryz.underlying9, hs, hi, D, Sem.run_bind]
theorem J9h {n V j : Nat} (hj : j < n) (ho : o.op = .index 9 x y) (hx : a.eval x = str (lb n V)) (hy : a.eval y = .int .i64 (j : Int)) : (execOp a.eval o).run Tryz.prog w = .ok (.value (.int .u8 (Q3 V j))) w := by
  rw [← J9x]; exact J7d (Q22 hj) ho hx hy
theorem J9i {p q : Int} {b : Bool} (hb : decide (q ≤ p) = b) (ho : o.op = .binOp .geq t x y t') (hx : a.eval x = .int .u8 p) (hy : a.eval y = .int .u8 q) : (execOp a.eval o).run Tryz.prog w = .ok (.value (.bool b)) w := by
  subst hb
  simp only [execOp, ho, hx, hy, eqGuard, binOp, Sem.run_bind]
  simp [go_sem, Sem.run_bind]
theorem Z6o {i : Nat} (hi : i < 9223372036854775808) (ho : o.op = .binOp .sub t x y t') (hx : a.eval x = .int .i64 (i : Int)) (hy : a.eval y = .int .i64 1) : (execOp a.eval o).run Tryz.prog w = .ok (.value (.int .i64 ((i : Int) - 1))) w := by
  have h := IntWalk.i64_in ((i : Int) - 1) (by omega)
  simp only [execOp, ho, hx, hy, eqGuard, binOp, Sem.run_bind]
  simp [go_sem, Sem.run_bind, h]
theorem Q7g {p : Nat} {k : IntKind} {n : Nat} (hn : n ≤ 8) (ho : o.op = .binOp .shr t x y t') (hx : a.eval x = .int .u8 (p : Int)) (hy : a.eval y = .int k (n : Int)) : (execOp a.eval o).run Tryz.prog w = .ok (.value (.int .u8 ((p / 2 ^ n : Nat) : Int))) w := by
  have e : (p : Int) / 2 ^ n = ((p / 2 ^ n : Nat) : Int) := by rw [Int.natCast_ediv, Int.natCast_pow]; rfl
  rw [Q1x hn ho hx hy, e]
theorem J39 {N r : Nat} (h : N % 2 = r) (ho : o.op = .binOp .rem t x y t') (hx : a.eval x = .int .i64 (Q6 N 0)) (hy : a.eval y = .int .i64 2) : (execOp a.eval o).run Tryz.prog w = .ok (.value (.int .i64 (r : Int))) w := by
  have := Q1w (P := Tryz.prog) (w := w) (i := N / 2 ^ (16 * 0) % 65536) (m := 2) (by decide) (Nat.lt_trans (Nat.mod_lt _ (by decide)) (by decide)) ho hx hy
  rw [this, Nat.mul_zero, Nat.pow_zero, Nat.div_one, show N % 65536 % 2 = r by omega]
end
section
variable {ops : Array Oper} {w : World} {r : List Oper} {o : Oper} {a : Act} {E : Act → Prop}
end
theorem take_set {cs : Array Value} {V V' : Nat} {v : Value} (h : cs.toList.take 32 = bs8 (lb 32 V)) (he : (J0 .u8 32 (Q3 V)).setIfInBounds 31 v = J0 .u8 32 (Q3 V')) : (cs.setIfInBounds 31 v).toList.take 32 = bs8 (lb 32 V') := by
  rw [Array.toList_setIfInBounds, List.take_set, h, J6u, J6u, ← J26, ← J26, ← he, Array.toList_setIfInBounds]
theorem Z6p {l : List UInt8} {i k : Nat} {c : UInt8} (h : l[i]? = some c) (hk : k < 8) : c.toNat / 2 ^ k % 2 = le l / 2 ^ (8 * i + k) % 2 := by
  rw [← Z0q h, Nat.pow_add, ← Nat.div_div_eq_div_mul]
  generalize le l / 2 ^ (8 * i) = x
  obtain ⟨d, hd⟩ : ∃ d, 8 = k + (1 + d) := ⟨7 - k, by omega⟩
  rw [show 256 = 2 ^ 8 by decide, hd, Nat.pow_add 2 k, Nat.mod_mul_right_div_self, Nat.pow_add 2 1 d, Nat.pow_one, Nat.mod_mul_right_mod]
end
end Go.Proofs.YtejkmhgkkibafaaGreatDoor.S8
