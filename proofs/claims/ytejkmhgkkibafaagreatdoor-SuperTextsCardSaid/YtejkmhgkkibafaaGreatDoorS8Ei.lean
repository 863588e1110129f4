/- Points as cells, and what the numbers of the code and of the document tell of points. No conditions. The highest bit of 32 bytes; '==' of 32 bytes; texts of numbers' bytes. No conditions. Texts and bytes, by index; a byte turned in a row of bytes; numbers of the bytes of a text. No conditions. -/
import Derived.Test.YtejkmhgkkibafaaGreatDoorJ8
import Derived.Test.YtejkmhgkkibafaaGreatDoorOz
import Derived.Test.YtejkmhgkkibafaaGreatDoorJ11
import Derived.Test.YtejkmhgkkibafaaGreatDoorS8Eg
import Derived.Test.YtejkmhgkkibafaaGreatDoorGc
import Derived.Test.YtejkmhgkkibafaaGreatDoorS8Eb
import Derived.Test.YtejkmhgkkibafaaGreatDoorJ16
import Derived.Laws.BitsAllLaws
set_option linter.unusedSimpArgs false
set_option linter.unusedVariables false
namespace Go.Proofs.YtejkmhgkkibafaaGreatDoor.S8
open Go.RowKit

/-- twice the curve's number; the base -/
def D2 : Nat := 16295367250680780974490674513165176452449235426866156013048779062215315747161
def BX : Nat := 15112221349535400772501151409588531511454012693041857206046113283949847762202
def BY : Nat := 46316835694926478169428394003475163141307993866256225615783033603165251855960
def BP : Pr := (fp BX, fp BY)
theorem BP_on : OnC BP := by unfold OnC; decide +kernel
theorem fp_D2 : fp D2 = 2 * dd := by decide +kernel
theorem DD_lt : DD < P256 := by decide
theorem D2_lt : D2 < P256 := by decide
theorem lt_pp {A : Nat} (h : A < PP) : A < P256 := Nat.lt_trans h (by decide)
theorem mod_pp (A : Nat) : A % PP < PP := Nat.mod_lt _ PP_pos
theorem bpp {X n : Nat} (h : X = n % PP) : X < PP := h ▸ mod_pp n
/-- the cells of a point: of the code, of the document -/
def p4 (X Y Z T : Nat) : Array Value := c4 X ++ c4 Y ++ c4 Z ++ c4 T
def p3 (X Y Z : Nat) : Array Value := arrK .i64 16 (l16 X) ++ arrK .i64 16 (l16 Y) ++ arrK .i64 16 (l16 Z)
section
variable {X Y Z T : Nat}
theorem p4c0 : ∀ i v, (c4 X)[i]? = some v → (p4 X Y Z T)[0 + i]? = some v := fun i v h => by rw [Nat.zero_add]; exact app_l (app_l (app_l h))
theorem p4c1 : ∀ i v, (c4 Y)[i]? = some v → (p4 X Y Z T)[4 + i]? = some v := fun i v h => app_l (app_l (app_r rfl h))
theorem p4c2 : ∀ i v, (c4 Z)[i]? = some v → (p4 X Y Z T)[8 + i]? = some v := fun i v h => app_l (app_r rfl h)
theorem p4c3 : ∀ i v, (c4 T)[i]? = some v → (p4 X Y Z T)[12 + i]? = some v := fun i v h => app_r rfl h
end
/-- the code's numbers tell the point a -/
structure RN (X Y Z T : Nat) (a : Pr) : Prop where
  x : X < PP
  y : Y < PP
  z : Z < PP
  t : T < PP
  on : OnC a
  rc : Rc (fp X) (fp Y) (fp Z) (fp T) a
/-- or they are the zero value, and a is the neutral point -/
def RW (X Y Z T : Nat) (a : Pr) : Prop := RN X Y Z T a ∨ (X = 0 ∧ Y = 0 ∧ Z = 0 ∧ T = 0 ∧ a = p0)
/-- the document's numbers tell the point a -/
structure RD (X Y Z : Nat) (a : Pr) : Prop where
  x : X < PP
  y : Y < PP
  z : Z < PP
  on : OnC a
  rr : Rr (fp X) (fp Y) (fp Z) a
section
variable {X Y Z T : Nat} {a : Pr}
theorem RN.rw (h : RN X Y Z T a) : RW X Y Z T a := .inl h
theorem RW.on (h : RW X Y Z T a) : OnC a := by
  rcases h with h | h
  · exact h.on
  · rw [h.2.2.2.2]; exact p0_on
theorem rw_zero : RW 0 0 0 0 p0 := .inr ⟨rfl, rfl, rfl, rfl, rfl⟩
theorem RW.x (h : RW X Y Z T a) : X < P256 := by
  rcases h with h | h
  · exact lt_pp h.x
  · rw [h.1]; decide
theorem RW.y (h : RW X Y Z T a) : Y < P256 := by
  rcases h with h | h
  · exact lt_pp h.y
  · rw [h.2.1]; decide
theorem RW.z (h : RW X Y Z T a) : Z < P256 := by
  rcases h with h | h
  · exact lt_pp h.z
  · rw [h.2.2.1]; decide
theorem RW.t (h : RW X Y Z T a) : T < P256 := by
  rcases h with h | h
  · exact lt_pp h.t
  · rw [h.2.2.2.1]; decide
theorem RN.nz (h : RN X Y Z T a) : Z ≠ 0 := fun e => h.rc.1 (by rw [e]; rfl)
theorem RW.cases (h : RW X Y Z T a) : (Z ≠ 0 ∧ RN X Y Z T a) ∨ (Z = 0 ∧ a = p0) := by
  rcases h with h | h
  · exact .inl ⟨h.nz, h⟩
  · exact .inr ⟨h.2.2.1, h.2.2.2.2⟩
theorem rn_p0 : RN 0 1 1 0 p0 := ⟨by decide, by decide, by decide, by decide, p0_on, by
  refine ⟨by decide +kernel, ?_, ?_, ?_⟩ <;> decide +kernel⟩
theorem RN.rr (h : RN X Y Z T a) : RD X Y Z a := ⟨h.x, h.y, h.z, h.on, h.rc.rr⟩
theorem fp_sub' (A B : Nat) : fp ((A + (PP - B % PP)) % PP) = fp A - fp B := by rw [fp_mod, fp_add, fp_neg]; grind
theorem fp_add' (A B : Nat) : fp ((A + B) % PP) = fp A + fp B := by rw [fp_mod, fp_add]
theorem fp_mul' (A B : Nat) : fp (A * B % PP) = fp A * fp B := by rw [fp_mod, fp_mul]
theorem fp_neg' (A : Nat) : fp ((PP - A % PP) % PP) = - fp A := by rw [fp_mod, fp_neg]
theorem rn_add {X1 Y1 Z1 T1 X2 Y2 Z2 T2 s1 s2 A a1 a2 B m C zz D E F G H x y z t : Nat} {p q : Pr} (r1 : RN X1 Y1 Z1 T1 p) (r2 : RN X2 Y2 Z2 T2 q)
    (e1 : s1 = (Y1 + (PP - X1 % PP)) % PP) (e2 : s2 = (Y2 + (PP - X2 % PP)) % PP) (eA : A = s1 * s2 % PP) (e3 : a1 = (Y1 + X1) % PP) (e4 : a2 = (Y2 + X2) % PP) (eB : B = a1 * a2 % PP)
    (e5 : m = T1 * D2 % PP) (eC : C = m * T2 % PP) (e6 : zz = (Z1 + Z1) % PP) (eD : D = zz * Z2 % PP) (eE : E = (B + (PP - A % PP)) % PP) (eF : F = (D + (PP - C % PP)) % PP) (eG : G = (D + C) % PP) (eH : H = (B + A) % PP)
    (ex : x = E * F % PP) (ey : y = G * H % PP) (ez : z = F * G % PP) (et : t = E * H % PP) : RN x y z t (padd p q) := by
  have k := rc_add (A := fp A) (B := fp B) (C := fp C) (D := fp D) r1.on r2.on r1.rc r2.rc (by rw [eA, fp_mul', e1, e2, fp_sub', fp_sub']) (by rw [eB, fp_mul', e3, e4, fp_add', fp_add'])
    (by rw [eC, fp_mul', e5, fp_mul', fp_D2]) (by rw [eD, fp_mul', e6, fp_add'])
  refine ⟨ex ▸ mod_pp _, ey ▸ mod_pp _, ez ▸ mod_pp _, et ▸ mod_pp _, padd_on r1.on r2.on, ?_⟩
  rw [ex, ey, ez, et, fp_mul', fp_mul', fp_mul', fp_mul', eE, eF, eG, eH, fp_sub', fp_sub', fp_add', fp_add']
  exact k
theorem rn_twice {A B c C H S q E G F x y z t : Nat} (r : RN X Y Z T a) (eA : A = X * X % PP) (eB : B = Y * Y % PP) (e1 : c = Z * Z % PP) (eC : C = (c + c) % PP) (eH : H = (A + B) % PP) (eS : S = (X + Y) % PP) (e2 : q = S * S % PP)
    (eE : E = (H + (PP - q % PP)) % PP) (eG : G = (A + (PP - B % PP)) % PP) (eF : F = (C + G) % PP) (ex : x = E * F % PP) (ey : y = G * H % PP) (ez : z = F * G % PP) (et : t = E * H % PP) : RN x y z t (padd a a) := by
  have k := rc_twice (A := fp A) (B := fp B) (C := fp C) (E := fp E) (G := fp G) (H := fp H) (F := fp F) r.on r.rc (by rw [eA, fp_mul']) (by rw [eB, fp_mul']) (by rw [eC, fp_add', e1, fp_mul']) (by rw [eH, fp_add'])
    (by rw [eE, fp_sub', e2, fp_mul', eS, fp_add']) (by rw [eG, fp_sub']) (by rw [eF, fp_add'])
  refine ⟨ex ▸ mod_pp _, ey ▸ mod_pp _, ez ▸ mod_pp _, et ▸ mod_pp _, padd_on r.on r.on, ?_⟩
  rw [ex, ey, ez, et, fp_mul', fp_mul', fp_mul', fp_mul']
  exact k
theorem rn_neg {x t : Nat} (r : RN X Y Z T a) (ex : x = (PP - X % PP) % PP) (et : t = (PP - T % PP) % PP) : RN x Y Z t (pneg a) := by
  refine ⟨ex ▸ mod_pp _, r.y, r.z, et ▸ mod_pp _, pneg_on r.on, ?_⟩
  obtain ⟨h1, h2, h3, h4⟩ := r.rc
  rw [ex, et, fp_neg', fp_neg']
  refine ⟨h1, ?_, h3, ?_⟩
  · show -fp X = -a.1 * fp Z
    rw [h2]; grind
  · show -fp T = -a.1 * a.2 * fp Z
    rw [h4]; grind
theorem rn_of {t : Nat} (hX : X < PP) (hY : Y < PP) (on : OnC (fp X, fp Y)) (et : t = X * Y % PP) : RN X Y 1 t (fp X, fp Y) := by
  refine ⟨hX, hY, by decide, et ▸ mod_pp _, on, ?_⟩
  rw [et, fp_mul', fp_one]
  refine ⟨by decide +kernel, ?_, ?_, ?_⟩
  · show fp X = fp X * 1
    grind
  · show fp Y = fp Y * 1
    grind
  · show fp X * fp Y = fp X * fp Y * 1
    grind
/-- x, y of the point, by the inverse of Z -/
theorem inv_xy {i x y : Nat} (r : RD X Y Z a) (ei : i = pw Z (PP - 2)) (ex : x = X * i % PP) (ey : y = Y * i % PP) : x = a.1.val ∧ y = a.2.val := by
  have k := rr_inv r.rr
  have hi : fp i = finv (fp Z) := by
    rw [ei, fp_pw]
    show _ = fp ((fp Z).val ^ (PP - 2))
    rw [fp_val, Nat.mod_eq_of_lt r.z]
  rw [← hi, ← fp_mul, ← fp_mul] at k
  rw [ex, ey]
  exact ⟨congrArg Fin.val k.1, congrArg Fin.val k.2⟩
end
theorem GI_ext {w W : World} (h : GI w) (e : Ext w W) : GI W := Rd.ext (show Rd w 12 imaC from h) e
/-- what the walks ask of the world: the numbers of the curve, as far as they are asked for: twice the curve's number, the base, the curve's number and the imaginary one -/
structure Kn where
  d : Prop
  b : Prop
  c : Prop
  r : Prop
abbrev GE (kn : Kn) (w : World) : Prop := GF w ∧ (kn.c → GI w) ∧ (kn.c → Rd w 8 (c4 DD)) ∧ (kn.d → Rd w 9 (c4 D2)) ∧ (kn.b → Rd w 5 (c4 BX)) ∧ (kn.b → Rd w 6 (c4 BY))
theorem GE_ext {kn : Kn} {w W : World} (h : GE kn w) (k : Ext w W) : GE kn W := ⟨GF_ext h.1 k, fun x => GI_ext (h.2.1 x) k, fun x => (h.2.2.1 x).ext k, fun x => (h.2.2.2.1 x).ext k, fun x => (h.2.2.2.2.1 x).ext k, fun x => (h.2.2.2.2.2 x).ext k⟩
end Go.Proofs.YtejkmhgkkibafaaGreatDoor.S8

namespace Go.Proofs.YtejkmhgkkibafaaGreatDoor.S8
open Go.RowKit

theorem and128 : ∀ a, a < 256 → a &&& 128 = if 128 ≤ a then 128 else 0 := by decide +kernel
theorem or128 : ∀ a, a < 128 → a ||| 128 = a + 128 := by decide +kernel
theorem andn128 : ∀ a, a < 256 → a &&& (255 - 128) = a % 128 := by decide +kernel
section
variable {P : Program} {w : World} {o : Oper} {a : Act} {x y : Operand} {t t' : TypeId} {p q r : Int}
theorem run_andU (h : bits .and .u8 p q = r) (ho : o.op = .binOp .and t x y t') (hx : a.eval x = .int .u8 p) (hy : a.eval y = .int .u8 q) : (execOp a.eval o).run P w = .ok (.value (.int .u8 r)) w := by
  subst h; simp only [execOp, ho, hx, hy]; rfl
theorem run_orU (h : bits .or .u8 p q = r) (ho : o.op = .binOp .or t x y t') (hx : a.eval x = .int .u8 p) (hy : a.eval y = .int .u8 q) : (execOp a.eval o).run P w = .ok (.value (.int .u8 r)) w := by
  subst h; simp only [execOp, ho, hx, hy]; rfl
theorem run_andnU (h : bits .andNot .u8 p q = r) (ho : o.op = .binOp .andNot t x y t') (hx : a.eval x = .int .u8 p) (hy : a.eval y = .int .u8 q) : (execOp a.eval o).run P w = .ok (.value (.int .u8 r)) w := by
  subst h; simp only [execOp, ho, hx, hy]; rfl
end
theorem byt31 {V : Nat} (hV : V < 2 ^ 256) : byt V 31 = ((V / 2 ^ 248 : Nat) : Int) ∧ V / 2 ^ 248 < 256 := by
  have h : V / 2 ^ 248 < 256 := Nat.div_lt_of_lt_mul (by rw [← show (2 : Nat) ^ 256 = 2 ^ 248 * 256 by decide]; exact hV)
  unfold byt
  rw [show 8 * 31 = 248 by decide, Nat.mod_eq_of_lt h]
  exact ⟨rfl, h⟩
theorem top_iff (V : Nat) : top V = true ↔ 128 ≤ V / 2 ^ 248 := by
  unfold top
  rw [decide_eq_true_iff]
  generalize hP : (2 : Nat) ^ 248 = P
  have e : (2 : Nat) ^ 255 = 128 * P := by rw [← hP]
  rw [e, Nat.le_div_iff_mul_le (by subst hP; decide)]
theorem and_hi1 {V : Nat} (hV : V < 2 ^ 256) (ht : top V = true) : bits .and .u8 (byt V 31) 128 = 128 := by
  obtain ⟨h1, h2⟩ := byt31 hV
  rw [h1]
  refine (u8_and_nat _ 128 h2 (by decide)).trans ?_
  rw [and128 _ h2, if_pos ((top_iff V).1 ht)]; rfl
theorem and_hi0 {V : Nat} (hV : V < 2 ^ 256) (ht : ¬ top V = true) : bits .and .u8 (byt V 31) 128 = 0 := by
  obtain ⟨h1, h2⟩ := byt31 hV
  rw [h1]
  refine (u8_and_nat _ 128 h2 (by decide)).trans ?_
  rw [and128 _ h2, if_neg fun h => ht ((top_iff V).2 h)]; rfl
theorem byt_low {V j : Nat} (hj : j < 31) : byt (V % 2 ^ 255) j = byt V j := by
  unfold byt
  congr 1
  obtain ⟨d, hd⟩ : ∃ d, 255 = 8 * j + (8 + d) := ⟨247 - 8 * j, by omega⟩
  rw [hd, Nat.pow_add 2 (8 * j), Nat.mod_mul_right_div_self, Nat.pow_add 2 8 d, Nat.mod_mul_right_mod]
theorem byt_top (V : Nat) : byt (V % 2 ^ 255) 31 = ((V / 2 ^ 248 % 128 : Nat) : Int) := by
  unfold byt
  congr 1
  rw [show 8 * 31 = 248 by decide, show (2 : Nat) ^ 255 = 2 ^ 248 * 128 by decide, Nat.mod_mul_right_div_self]
  omega
theorem clr31 {V : Nat} {r : Int} (hr : r = ((V / 2 ^ 248 % 128 : Nat) : Int)) : arrK .u8 32 (upd (byt V) 31 r) = arrK .u8 32 (byt (V % 2 ^ 255)) := by
  apply arrK_congr
  intro j hj
  by_cases h : j = 31
  · subst h; rw [upd_same, byt_top]; exact hr
  · rw [upd_other _ _ _ _ h, byt_low (by omega)]
theorem clr_bit {V : Nat} (hV : V < 2 ^ 256) : bits .andNot .u8 (byt V 31) 128 = ((V / 2 ^ 248 % 128 : Nat) : Int) := by
  obtain ⟨h1, h2⟩ := byt31 hV
  rw [h1]
  refine (u8_andNot_nat _ 128 h2 (by decide)).trans ?_
  rw [andn128 _ h2]
theorem set_bit {V : Nat} (hV : V < 2 ^ 255) : bits .or .u8 (byt V 31) 128 = byt (V + 2 ^ 255) 31 := by
  obtain ⟨h1, h2⟩ := byt31 (V := V) (Nat.lt_trans hV (by decide))
  obtain ⟨h3, h4⟩ := byt31 (V := V + 2 ^ 255) (by omega)
  have h5 : V / 2 ^ 248 < 128 := Nat.div_lt_of_lt_mul (by rw [← show (2 : Nat) ^ 255 = 2 ^ 248 * 128 by decide]; exact hV)
  rw [h1, h3]
  refine (u8_or_nat _ 128 h2 (by decide)).trans ?_
  rw [or128 _ h5, show (2 : Nat) ^ 255 = 2 ^ 248 * 128 by decide, Nat.add_mul_div_left _ _ (by decide)]
theorem set31 {V : Nat} (hV : V < 2 ^ 255) : arrK .u8 32 (upd (byt V) 31 (bits .or .u8 (byt V 31) 128)) = arrK .u8 32 (byt (V + 2 ^ 255)) := by
  apply arrK_congr
  intro j hj
  by_cases h : j = 31
  · subst h; rw [upd_same, set_bit hV]
  · rw [upd_other _ _ _ _ h, ← byt_low (V := V + 2 ^ 255) (by omega), Nat.add_mod_right, Nat.mod_eq_of_lt hV]
end Go.Proofs.YtejkmhgkkibafaaGreatDoor.S8

namespace Go.Proofs.YtejkmhgkkibafaaGreatDoor.S8
open Go.RowKit
section
variable {w : World} {o : Oper} {a : Act} {x y : Operand} {t t' : TypeId}
/-- a text's byte -/
theorem run_sixs {l : List UInt8} {i : Nat} {c : UInt8} (h : l[i]? = some c) (ho : o.op = .index 9 x y) (hx : a.eval x = str l) (hy : a.eval y = .int .i64 (i : Int)) : (execOp a.eval o).run Tryz.prog w = .ok (.value (.int .u8 (c.toNat : Int))) w := by
  have hs := ba_size l
  have hi := (List.getElem?_eq_some_iff.1 h).1
  have hg := (List.getElem?_eq_some_iff.1 h).2
  have hg2 : (⟨l.toArray⟩ : ByteArray)[i]'(by rw [hs]; exact hi) = c := by
    show l.toArray[i]'(by simpa using hi) = c
    simpa using hg
  simp only [execOp, ho, hx, hy, str, Sem.run_bind]
  simp [Instr.index, asIntOf, run_underlying Tryz.underlying9, hs, hi, hg2, Sem.run_bind]
end
section
variable {ops : Array Oper} {w : World} {r : List Oper} {o : Oper} {a : Act} {E : Act → Prop}
end
end Go.Proofs.YtejkmhgkkibafaaGreatDoor.S8
