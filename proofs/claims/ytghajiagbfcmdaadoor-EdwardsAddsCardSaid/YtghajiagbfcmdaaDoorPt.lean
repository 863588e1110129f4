/- Points as cells, and what the numbers of the code and of the document tell of points. No conditions. -/
import Derived.Test.YtghajiagbfcmdaaDoorEdB
import Derived.Test.YtghajiagbfcmdaaDoorGc
import Derived.Test.YtghajiagbfcmdaaDoorFeH
import Derived.Test.YtghajiagbfcmdaaDoorFrI
namespace Go.Proofs.YtghajiagbfcmdaaDoor
set_option linter.unusedSimpArgs false
set_option linter.unusedVariables false
open Go.RowKit

/-! short names for the steps' laws of lists -/
theorem mA (l : List Value) (i : Nat) (a : Value) : l.toArray.setIfInBounds i a = (l.set i a).toArray := List.setIfInBounds_toArray l i a
theorem mB (a b : Value) (l : List Value) : (a :: l).set 0 b = b :: l := List.set_cons_zero
theorem mC (a b : Value) (l : List Value) (n : Nat) : (a :: l).set (n + 1) b = a :: l.set n b := List.set_cons_succ
/-- twice the curve's number; the base -/
def D2 : Nat := 16295367250680780974490674513165176452449235426866156013048779062215315747161
def BX : Nat := 15112221349535400772501151409588531511454012693041857206046113283949847762202
def BY : Nat := 46316835694926478169428394003475163141307993866256225615783033603165251855960
def BP : Pr := (fp BX, fp BY)
theorem BP_on : OnC BP := by unfold OnC; decide +kernel
theorem fp_D2 : fp D2 = 2 * dd := by decide +kernel
theorem DD_lt : DD < P256 := by decide
theorem D2_lt : D2 < P256 := by decide
theorem BX_lt : BX < P256 := by decide
theorem BY_lt : BY < P256 := by decide
theorem lt_pp {A : Nat} (h : A < PP) : A < P256 := Nat.lt_trans h (by decide)
theorem mod_pp (A : Nat) : A % PP < PP := Nat.mod_lt _ PP_pos
/-- the cells of a point: of the code, of the document -/
def p4 (X Y Z T : Nat) : Array Value := c4 X ++ c4 Y ++ c4 Z ++ c4 T
def p3 (X Y Z : Nat) : Array Value := arrK .i64 16 (l16 X) ++ arrK .i64 16 (l16 Y) ++ arrK .i64 16 (l16 Z)
section
variable {X Y Z T : Nat}
theorem p4c0 : ∀ i v, (c4 X)[i]? = some v → (p4 X Y Z T)[0 + i]? = some v := fun i v h => by rw [Nat.zero_add]; exact app_l (app_l (app_l h))
theorem p4c1 : ∀ i v, (c4 Y)[i]? = some v → (p4 X Y Z T)[4 + i]? = some v := fun i v h => app_l (app_l (app_r rfl h))
theorem p4c2 : ∀ i v, (c4 Z)[i]? = some v → (p4 X Y Z T)[8 + i]? = some v := fun i v h => app_l (app_r rfl h)
theorem p4c3 : ∀ i v, (c4 T)[i]? = some v → (p4 X Y Z T)[12 + i]? = some v := fun i v h => app_r rfl h
theorem s16 {f : Nat → Int} : (arrK .i64 16 f).size = 16 := arrK_size _ _ _
theorem p3c0 : ∀ i v, (arrK .i64 16 (l16 X))[i]? = some v → (p3 X Y Z)[0 + i]? = some v := fun i v h => by rw [Nat.zero_add]; exact app_l (app_l h)
theorem p3c1 : ∀ i v, (arrK .i64 16 (l16 Y))[i]? = some v → (p3 X Y Z)[16 + i]? = some v := fun i v h => app_l (app_r s16 h)
theorem p3c2 : ∀ i v, (arrK .i64 16 (l16 Z))[i]? = some v → (p3 X Y Z)[32 + i]? = some v := fun i v h => app_r (by rw [Array.size_append, s16, s16]) h
theorem p3_size : (p3 X Y Z).size = 48 := by unfold p3; rw [Array.size_append, Array.size_append, s16, s16, s16]
theorem p3_one : (p3 X Y Z).all (·.oneCell') = true := by
  unfold p3
  rw [Array.all_append, Array.all_append, arrK_one, arrK_one, arrK_one]; rfl
end
/-- the code's numbers tell the point a -/
structure RN (X Y Z T : Nat) (a : Pr) : Prop where
  x : X < PP
  y : Y < PP
  z : Z < PP
  t : T < PP
  on : OnC a
  rc : Rc (fp X) (fp Y) (fp Z) (fp T) a
/-- or they are the zero value, and a is the neutral point -/
def RW (X Y Z T : Nat) (a : Pr) : Prop := RN X Y Z T a ∨ (X = 0 ∧ Y = 0 ∧ Z = 0 ∧ T = 0 ∧ a = p0)
/-- the document's numbers tell the point a -/
structure RD (X Y Z : Nat) (a : Pr) : Prop where
  x : X < PP
  y : Y < PP
  z : Z < PP
  on : OnC a
  rr : Rr (fp X) (fp Y) (fp Z) a
section
variable {X Y Z T : Nat} {a : Pr}
theorem RN.rw (h : RN X Y Z T a) : RW X Y Z T a := .inl h
theorem RW.on (h : RW X Y Z T a) : OnC a := by
  rcases h with h | h
  · exact h.on
  · rw [h.2.2.2.2]; exact p0_on
theorem rw_zero : RW 0 0 0 0 p0 := .inr ⟨rfl, rfl, rfl, rfl, rfl⟩
theorem RW.x (h : RW X Y Z T a) : X < P256 := by
  rcases h with h | h
  · exact lt_pp h.x
  · rw [h.1]; decide
theorem RW.y (h : RW X Y Z T a) : Y < P256 := by
  rcases h with h | h
  · exact lt_pp h.y
  · rw [h.2.1]; decide
theorem RW.z (h : RW X Y Z T a) : Z < P256 := by
  rcases h with h | h
  · exact lt_pp h.z
  · rw [h.2.2.1]; decide
theorem RW.t (h : RW X Y Z T a) : T < P256 := by
  rcases h with h | h
  · exact lt_pp h.t
  · rw [h.2.2.2.1]; decide
theorem RN.nz (h : RN X Y Z T a) : Z ≠ 0 := fun e => h.rc.1 (by rw [e]; rfl)
theorem RW.cases (h : RW X Y Z T a) : (Z ≠ 0 ∧ RN X Y Z T a) ∨ (Z = 0 ∧ a = p0) := by
  rcases h with h | h
  · exact .inl ⟨h.nz, h⟩
  · exact .inr ⟨h.2.2.1, h.2.2.2.2⟩
theorem rn_p0 : RN 0 1 1 0 p0 := ⟨by decide, by decide, by decide, by decide, p0_on, by
  refine ⟨by decide +kernel, ?_, ?_, ?_⟩ <;> decide +kernel⟩
theorem RN.rr (h : RN X Y Z T a) : RD X Y Z a := ⟨h.x, h.y, h.z, h.on, h.rc.rr⟩
theorem fp_sub' (A B : Nat) : fp ((A + (PP - B % PP)) % PP) = fp A - fp B := by rw [fp_mod, fp_add, fp_neg]; grind
theorem fp_add' (A B : Nat) : fp ((A + B) % PP) = fp A + fp B := by rw [fp_mod, fp_add]
theorem fp_mul' (A B : Nat) : fp (A * B % PP) = fp A * fp B := by rw [fp_mod, fp_mul]
theorem fp_neg' (A : Nat) : fp ((PP - A % PP) % PP) = - fp A := by rw [fp_mod, fp_neg]
theorem rn_add {X1 Y1 Z1 T1 X2 Y2 Z2 T2 s1 s2 A a1 a2 B m C zz D E F G H x y z t : Nat} {p q : Pr} (r1 : RN X1 Y1 Z1 T1 p) (r2 : RN X2 Y2 Z2 T2 q)
    (e1 : s1 = (Y1 + (PP - X1 % PP)) % PP) (e2 : s2 = (Y2 + (PP - X2 % PP)) % PP) (eA : A = s1 * s2 % PP) (e3 : a1 = (Y1 + X1) % PP) (e4 : a2 = (Y2 + X2) % PP) (eB : B = a1 * a2 % PP)
    (e5 : m = T1 * D2 % PP) (eC : C = m * T2 % PP) (e6 : zz = (Z1 + Z1) % PP) (eD : D = zz * Z2 % PP) (eE : E = (B + (PP - A % PP)) % PP) (eF : F = (D + (PP - C % PP)) % PP) (eG : G = (D + C) % PP) (eH : H = (B + A) % PP)
    (ex : x = E * F % PP) (ey : y = G * H % PP) (ez : z = F * G % PP) (et : t = E * H % PP) : RN x y z t (padd p q) := by
  have k := rc_add (A := fp A) (B := fp B) (C := fp C) (D := fp D) r1.on r2.on r1.rc r2.rc (by rw [eA, fp_mul', e1, e2, fp_sub', fp_sub']) (by rw [eB, fp_mul', e3, e4, fp_add', fp_add'])
    (by rw [eC, fp_mul', e5, fp_mul', fp_D2]) (by rw [eD, fp_mul', e6, fp_add'])
  refine ⟨ex ▸ mod_pp _, ey ▸ mod_pp _, ez ▸ mod_pp _, et ▸ mod_pp _, padd_on r1.on r2.on, ?_⟩
  rw [ex, ey, ez, et, fp_mul', fp_mul', fp_mul', fp_mul', eE, eF, eG, eH, fp_sub', fp_sub', fp_add', fp_add']
  exact k
theorem rn_twice {A B c C H S q E G F x y z t : Nat} (r : RN X Y Z T a) (eA : A = X * X % PP) (eB : B = Y * Y % PP) (e1 : c = Z * Z % PP) (eC : C = (c + c) % PP) (eH : H = (A + B) % PP) (eS : S = (X + Y) % PP) (e2 : q = S * S % PP)
    (eE : E = (H + (PP - q % PP)) % PP) (eG : G = (A + (PP - B % PP)) % PP) (eF : F = (C + G) % PP) (ex : x = E * F % PP) (ey : y = G * H % PP) (ez : z = F * G % PP) (et : t = E * H % PP) : RN x y z t (padd a a) := by
  have k := rc_twice (A := fp A) (B := fp B) (C := fp C) (E := fp E) (G := fp G) (H := fp H) (F := fp F) r.on r.rc (by rw [eA, fp_mul']) (by rw [eB, fp_mul']) (by rw [eC, fp_add', e1, fp_mul']) (by rw [eH, fp_add'])
    (by rw [eE, fp_sub', e2, fp_mul', eS, fp_add']) (by rw [eG, fp_sub']) (by rw [eF, fp_add'])
  refine ⟨ex ▸ mod_pp _, ey ▸ mod_pp _, ez ▸ mod_pp _, et ▸ mod_pp _, padd_on r.on r.on, ?_⟩
  rw [ex, ey, ez, et, fp_mul', fp_mul', fp_mul', fp_mul']
  exact k
theorem rn_neg {x t : Nat} (r : RN X Y Z T a) (ex : x = (PP - X % PP) % PP) (et : t = (PP - T % PP) % PP) : RN x Y Z t (pneg a) := by
  refine ⟨ex ▸ mod_pp _, r.y, r.z, et ▸ mod_pp _, pneg_on r.on, ?_⟩
  obtain ⟨h1, h2, h3, h4⟩ := r.rc
  rw [ex, et, fp_neg', fp_neg']
  refine ⟨h1, ?_, h3, ?_⟩
  · show -fp X = -a.1 * fp Z
    rw [h2]; grind
  · show -fp T = -a.1 * a.2 * fp Z
    rw [h4]; grind
theorem rn_of {t : Nat} (hX : X < PP) (hY : Y < PP) (on : OnC (fp X, fp Y)) (et : t = X * Y % PP) : RN X Y 1 t (fp X, fp Y) := by
  refine ⟨hX, hY, by decide, et ▸ mod_pp _, on, ?_⟩
  rw [et, fp_mul', fp_one]
  refine ⟨by decide +kernel, ?_, ?_, ?_⟩
  · show fp X = fp X * 1
    grind
  · show fp Y = fp Y * 1
    grind
  · show fp X * fp Y = fp X * fp Y * 1
    grind
theorem rd_add {X1 Y1 Z1 X2 Y2 Z2 A B C D q E F G s1 s2 S af cd u x ag y z : Nat} {p q' : Pr} (r1 : RD X1 Y1 Z1 p) (r2 : RD X2 Y2 Z2 q')
    (eA : A = Z1 * Z2 % PP) (eB : B = A * A % PP) (eC : C = X1 * X2 % PP) (eD : D = Y1 * Y2 % PP) (e1 : q = C * D % PP) (eE : E = DD * q % PP) (eF : F = (B + (PP - E) % PP) % PP) (eG : G = (B + E) % PP)
    (e2 : s1 = (X1 + Y1) % PP) (e3 : s2 = (X2 + Y2) % PP) (eS : S = s1 * s2 % PP) (e4 : af = A * F % PP) (e5 : cd = (C + D) % PP) (e6 : u = (S + (PP - cd) % PP) % PP) (ex : x = af * u % PP) (e7 : ag = A * G % PP) (ey : y = ag * cd % PP) (ez : z = F * G % PP) : RD x y z (padd p q') := by
  have hE : E % PP = E := Nat.mod_eq_of_lt (eE ▸ mod_pp _)
  have hc : cd % PP = cd := Nat.mod_eq_of_lt (e5 ▸ mod_pp _)
  rw [← hE] at eF
  rw [← hc] at e6
  have fs : ∀ U V : Nat, fp ((U + (PP - V % PP) % PP) % PP) = fp U - fp V := fun U V => by rw [fp_mod, fp_add, fp_mod, fp_neg]; grind
  have k := rr_add (A := fp A) (B := fp B) (C := fp C) (D := fp D) (E := fp E) (F := fp F) (G := fp G) (S := fp S) r1.on r2.on r1.rr r2.rr (by rw [eA, fp_mul']) (by rw [eB, fp_mul']) (by rw [eC, fp_mul']) (by rw [eD, fp_mul'])
    (by rw [eE, fp_mul', e1, fp_mul']; rfl) (by rw [eF, fs]) (by rw [eG, fp_add']) (by rw [eS, fp_mul', e2, e3, fp_add', fp_add'])
  refine ⟨ex ▸ mod_pp _, ey ▸ mod_pp _, ez ▸ mod_pp _, padd_on r1.on r2.on, ?_⟩
  rw [ex, ey, ez, fp_mul', fp_mul', fp_mul', e4, e6, e7, fp_mul', fs, fp_mul', e5, fp_add']
  exact k
theorem rd_neg {x : Nat} (r : RD X Y Z a) (ex : x = (PP - X) % PP) : RD x Y Z (pneg a) := by
  have hx : X % PP = X := Nat.mod_eq_of_lt r.x
  rw [← hx] at ex
  refine ⟨ex ▸ mod_pp _, r.y, r.z, pneg_on r.on, ?_⟩
  obtain ⟨h1, h2, h3⟩ := r.rr
  rw [ex, fp_neg']
  refine ⟨h1, ?_, h3⟩
  show -fp X = -a.1 * fp Z
  rw [h2]; grind
theorem rd_one (hX : X < PP) (hY : Y < PP) (on : OnC (fp X, fp Y)) : RD X Y 1 (fp X, fp Y) := (rn_of hX hY on rfl).rr
theorem same_iff {X1 Y1 Z1 X2 Y2 Z2 m1 m2 m3 m4 : Nat} {p q : Pr} (r1 : RD X1 Y1 Z1 p) (r2 : RD X2 Y2 Z2 q) (e1 : m1 = X1 * Z2 % PP) (e2 : m2 = X2 * Z1 % PP) (e3 : m3 = Y1 * Z2 % PP) (e4 : m4 = Y2 * Z1 % PP) : (m1 = m2 ∧ m3 = m4) ↔ p = q := by
  rw [← rr_same r1.rr r2.rr, ← fp_mul, ← fp_mul, ← fp_mul, ← fp_mul, fp_eq, fp_eq, ← e1, ← e2, ← e3, ← e4]
/-- x, y of the point, by the inverse of Z -/
theorem inv_xy {i x y : Nat} (r : RD X Y Z a) (ei : i = pw Z (PP - 2)) (ex : x = X * i % PP) (ey : y = Y * i % PP) : x = a.1.val ∧ y = a.2.val := by
  have k := rr_inv r.rr
  have hi : fp i = finv (fp Z) := by
    rw [ei, fp_pw]
    show _ = fp ((fp Z).val ^ (PP - 2))
    rw [fp_val, Nat.mod_eq_of_lt r.z]
  rw [← hi, ← fp_mul, ← fp_mul] at k
  rw [ex, ey]
  exact ⟨congrArg Fin.val k.1, congrArg Fin.val k.2⟩
end
theorem GI_ext {w W : World} (h : GI w) (e : Ext w W) : GI W := Rd.ext (show Rd w 5 imaC from h) e
/-- what the walks ask of the world: the numbers of the curve, as far as they are asked for: twice the curve's number, the base, the curve's number and the imaginary one -/
structure Kn where
  d : Prop
  b : Prop
  c : Prop
abbrev GE (kn : Kn) (w : World) : Prop := GF w ∧ (kn.c → GI w) ∧ (kn.c → Rd w 3 (c4 DD)) ∧ (kn.d → Rd w 2 (c4 D2)) ∧ (kn.b → Rd w 0 (c4 BX)) ∧ (kn.b → Rd w 1 (c4 BY))
theorem GE_ext {kn : Kn} {w W : World} (h : GE kn w) (k : Ext w W) : GE kn W := ⟨GF_ext h.1 k, fun x => GI_ext (h.2.1 x) k, fun x => (h.2.2.1 x).ext k, fun x => (h.2.2.2.1 x).ext k, fun x => (h.2.2.2.2.1 x).ext k, fun x => (h.2.2.2.2.2 x).ext k⟩
end Go.Proofs.YtghajiagbfcmdaaDoor
