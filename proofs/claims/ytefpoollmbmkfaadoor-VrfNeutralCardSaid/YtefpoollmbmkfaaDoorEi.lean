/- Points as cells, and what the numbers of the code and of the document tell of points. No conditions. The highest bit of 32 bytes; '==' of 32 bytes; texts of numbers' bytes. No conditions. Texts and bytes, by index; a byte turned in a row of bytes; numbers of the bytes of a text. No conditions. -/
import Derived.Test.YtefpoollmbmkfaaDoorEg
import Derived.Test.YtefpoollmbmkfaaDoorGc
import Derived.Test.YtefpoollmbmkfaaDoorEb
import Derived.Test.YtefpoollmbmkfaaDoorEe
import Derived.Laws.BitsAllLaws
set_option linter.unusedSimpArgs false
set_option linter.unusedVariables false
namespace Go.Proofs.YtefpoollmbmkfaaDoor
set_option maxRecDepth 100000
open Go.RowKit

def D2 : Nat := 16295367250680780974490674513165176452449235426866156013048779062215315747161
def BX : Nat := 15112221349535400772501151409588531511454012693041857206046113283949847762202
def BY : Nat := 46316835694926478169428394003475163141307993866256225615783033603165251855960
def BP : Pr := (fp BX, fp BY)
theorem P6 : p5 BP := by unfold p5; decide +kernel
theorem g2q : fp D2 = 2 * dd := by decide +kernel
theorem j5n : DD < j4 := by decide
theorem g1s : D2 < j4 := by decide
theorem j5 {A : Nat} (h : A < PP) : A < j4 := Nat.lt_trans h (by decide)
theorem J7 (A : Nat) : A % PP < PP := Nat.mod_lt _ V3
theorem Z9 {X n : Nat} (h : X = n % PP) : X < PP := h ▸ J7 n
def p4 (X Y Z T : Nat) : Array Value := c4 X ++ c4 Y ++ c4 Z ++ c4 T
section
variable {X Y Z T : Nat}
theorem S0 : ∀ i v, (c4 X)[i]? = some v → (p4 X Y Z T)[0 + i]? = some v := fun i v h => by rw [Nat.zero_add]; exact H5 (H5 (H5 h))
theorem q0s : ∀ i v, (c4 Y)[i]? = some v → (p4 X Y Z T)[4 + i]? = some v := fun i v h => H5 (H5 (q1p rfl h))
theorem E5 : ∀ i v, (c4 Z)[i]? = some v → (p4 X Y Z T)[8 + i]? = some v := fun i v h => H5 (q1p rfl h)
theorem j7i : ∀ i v, (c4 T)[i]? = some v → (p4 X Y Z T)[12 + i]? = some v := fun i v h => q1p rfl h
end
structure RN (X Y Z T : Nat) (a : Pr) : Prop where
  x : X < PP
  y : Y < PP
  z : Z < PP
  t : T < PP
  on : p5 a
  rc : Rc (fp X) (fp Y) (fp Z) (fp T) a
def RW (X Y Z T : Nat) (a : Pr) : Prop := RN X Y Z T a ∨ (X = 0 ∧ Y = 0 ∧ Z = 0 ∧ T = 0 ∧ a = p0)
structure RD (X Y Z : Nat) (a : Pr) : Prop where
  x : X < PP
  y : Y < PP
  z : Z < PP
  on : p5 a
  rr : Rr (fp X) (fp Y) (fp Z) a
section
variable {X Y Z T : Nat} {a : Pr}
theorem RN.rw (h : RN X Y Z T a) : RW X Y Z T a := .inl h
theorem RW.on (h : RW X Y Z T a) : p5 a := by
  rcases h with h | h
  · exact h.on
  · rw [h.2.2.2.2]; exact y1o
theorem R1 : RW 0 0 0 0 p0 := .inr ⟨rfl, rfl, rfl, rfl, rfl⟩
theorem RW.x (h : RW X Y Z T a) : X < j4 := by
  rcases h with h | h
  · exact j5 h.x
  · rw [h.1]; decide
theorem RW.y (h : RW X Y Z T a) : Y < j4 := by
  rcases h with h | h
  · exact j5 h.y
  · rw [h.2.1]; decide
theorem RW.z (h : RW X Y Z T a) : Z < j4 := by
  rcases h with h | h
  · exact j5 h.z
  · rw [h.2.2.1]; decide
theorem RW.t (h : RW X Y Z T a) : T < j4 := by
  rcases h with h | h
  · exact j5 h.t
  · rw [h.2.2.2.1]; decide
theorem RN.nz (h : RN X Y Z T a) : Z ≠ 0 := fun e => h.rc.1 (by rw [e]; rfl)
theorem RW.cases (h : RW X Y Z T a) : (Z ≠ 0 ∧ RN X Y Z T a) ∨ (Z = 0 ∧ a = p0) := by
  rcases h with h | h
  · exact .inl ⟨h.nz, h⟩
  · exact .inr ⟨h.2.2.1, h.2.2.2.2⟩
theorem j5h : RN 0 1 1 0 p0 := ⟨by decide, by decide, by decide, by decide, y1o, by
  refine ⟨by decide +kernel, ?_, ?_, ?_⟩ <;> decide +kernel⟩
theorem RN.rr (h : RN X Y Z T a) : RD X Y Z a := ⟨h.x, h.y, h.z, h.on, h.rc.rr⟩
theorem R2 (A B : Nat) : fp ((A + (PP - B % PP)) % PP) = fp A - fp B := by rw [a5, q0t, S9]; grind
theorem D0 (A B : Nat) : fp ((A + B) % PP) = fp A + fp B := by rw [a5, q0t]
theorem l8 (A B : Nat) : fp (A * B % PP) = fp A * fp B := by rw [a5, b9]
theorem y1t (A : Nat) : fp ((PP - A % PP) % PP) = - fp A := by rw [a5, S9]
theorem y6o {X1 Y1 Z1 T1 X2 Y2 Z2 T2 s1 s2 A a1 a2 B m C zz D E F G H x y z t : Nat} {p q : Pr} (r1 : RN X1 Y1 Z1 T1 p) (r2 : RN X2 Y2 Z2 T2 q)
    (e1 : s1 = (Y1 + (PP - X1 % PP)) % PP) (e2 : s2 = (Y2 + (PP - X2 % PP)) % PP) (eA : A = s1 * s2 % PP) (e3 : a1 = (Y1 + X1) % PP) (e4 : a2 = (Y2 + X2) % PP) (eB : B = a1 * a2 % PP)
    (e5 : m = T1 * D2 % PP) (eC : C = m * T2 % PP) (e6 : zz = (Z1 + Z1) % PP) (eD : D = zz * Z2 % PP) (eE : E = (B + (PP - A % PP)) % PP) (eF : F = (D + (PP - C % PP)) % PP) (eG : G = (D + C) % PP) (eH : H = (B + A) % PP)
    (ex : x = E * F % PP) (ey : y = G * H % PP) (ez : z = F * G % PP) (et : t = E * H % PP) : RN x y z t (d5 p q) := by
  have k := j7x (A := fp A) (B := fp B) (C := fp C) (D := fp D) r1.on r2.on r1.rc r2.rc (by rw [eA, l8, e1, e2, R2, R2]) (by rw [eB, l8, e3, e4, D0, D0])
    (by rw [eC, l8, e5, l8, g2q]) (by rw [eD, l8, e6, D0])
  refine ⟨ex ▸ J7 _, ey ▸ J7 _, ez ▸ J7 _, et ▸ J7 _, P9 r1.on r2.on, ?_⟩
  rw [ex, ey, ez, et, l8, l8, l8, l8, eE, eF, eG, eH, R2, R2, D0, D0]
  exact k
theorem q7o {A B c C H S q E G F x y z t : Nat} (r : RN X Y Z T a) (eA : A = X * X % PP) (eB : B = Y * Y % PP) (e1 : c = Z * Z % PP) (eC : C = (c + c) % PP) (eH : H = (A + B) % PP) (eS : S = (X + Y) % PP) (e2 : q = S * S % PP)
    (eE : E = (H + (PP - q % PP)) % PP) (eG : G = (A + (PP - B % PP)) % PP) (eF : F = (C + G) % PP) (ex : x = E * F % PP) (ey : y = G * H % PP) (ez : z = F * G % PP) (et : t = E * H % PP) : RN x y z t (d5 a a) := by
  have k := y7f (A := fp A) (B := fp B) (C := fp C) (E := fp E) (G := fp G) (H := fp H) (F := fp F) r.on r.rc (by rw [eA, l8]) (by rw [eB, l8]) (by rw [eC, D0, e1, l8]) (by rw [eH, D0])
    (by rw [eE, R2, e2, l8, eS, D0]) (by rw [eG, R2]) (by rw [eF, D0])
  refine ⟨ex ▸ J7 _, ey ▸ J7 _, ez ▸ J7 _, et ▸ J7 _, P9 r.on r.on, ?_⟩
  rw [ex, ey, ez, et, l8, l8, l8, l8]
  exact k
theorem j7k {x t : Nat} (r : RN X Y Z T a) (ex : x = (PP - X % PP) % PP) (et : t = (PP - T % PP) % PP) : RN x Y Z t (G4 a) := by
  refine ⟨ex ▸ J7 _, r.y, r.z, et ▸ J7 _, q6l r.on, ?_⟩
  obtain ⟨h1, h2, h3, h4⟩ := r.rc
  rw [ex, et, y1t, y1t]
  refine ⟨h1, ?_, h3, ?_⟩
  · show -fp X = -a.1 * fp Z
    rw [h2]; grind
  · show -fp T = -a.1 * a.2 * fp Z
    rw [h4]; grind
theorem q7n {t : Nat} (hX : X < PP) (hY : Y < PP) (on : p5 (fp X, fp Y)) (et : t = X * Y % PP) : RN X Y 1 t (fp X, fp Y) := by
  refine ⟨hX, hY, by decide, et ▸ J7 _, on, ?_⟩
  rw [et, l8, q0u]
  refine ⟨by decide +kernel, ?_, ?_, ?_⟩
  · show fp X = fp X * 1
    grind
  · show fp Y = fp Y * 1
    grind
  · show fp X * fp Y = fp X * fp Y * 1
    grind
theorem q3c {X1 Y1 Z1 X2 Y2 Z2 m1 m2 m3 m4 : Nat} {p q : Pr} (r1 : RD X1 Y1 Z1 p) (r2 : RD X2 Y2 Z2 q) (e1 : m1 = X1 * Z2 % PP) (e2 : m2 = X2 * Z1 % PP) (e3 : m3 = Y1 * Z2 % PP) (e4 : m4 = Y2 * Z1 % PP) : (m1 = m2 ∧ m3 = m4) ↔ p = q := by
  rw [← j2h r1.rr r2.rr, ← b9, ← b9, ← b9, ← b9, fp_eq, fp_eq, ← e1, ← e2, ← e3, ← e4]
theorem y6u {i x y : Nat} (r : RD X Y Z a) (ei : i = pw Z (PP - 2)) (ex : x = X * i % PP) (ey : y = Y * i % PP) : x = a.1.val ∧ y = a.2.val := by
  have k := j7y r.rr
  have hi : fp i = K7 (fp Z) := by
    rw [ei, g2j]
    show _ = fp ((fp Z).val ^ (PP - 2))
    rw [q6h, Nat.mod_eq_of_lt r.z]
  rw [← hi, ← b9, ← b9] at k
  rw [ex, ey]
  exact ⟨congrArg Fin.val k.1, congrArg Fin.val k.2⟩
end
theorem j8b {w W : World} (h : GI w) (e : J4 w W) : GI W := Rd.ext (show Rd w 8 V6 from h) e
structure Kn where
  d : Prop
  b : Prop
  c : Prop
  r : Prop
abbrev GE (kn : Kn) (w : World) : Prop := GF w ∧ (kn.c → GI w) ∧ (kn.c → Rd w 1 (c4 DD)) ∧ (kn.d → Rd w 5 (c4 D2)) ∧ (kn.b → Rd w 3 (c4 BX)) ∧ (kn.b → Rd w 4 (c4 BY))
theorem q8 {kn : Kn} {w W : World} (h : GE kn w) (k : J4 w W) : GE kn W := ⟨GF_ext h.1 k, fun x => j8b (h.2.1 x) k, fun x => (h.2.2.1 x).ext k, fun x => (h.2.2.2.1 x).ext k, fun x => (h.2.2.2.2.1 x).ext k, fun x => (h.2.2.2.2.2 x).ext k⟩
end Go.Proofs.YtefpoollmbmkfaaDoor

namespace Go.Proofs.YtefpoollmbmkfaaDoor
set_option maxRecDepth 100000
open Go.RowKit

theorem y7j : ∀ a, a < 256 → a &&& 128 = if 128 ≤ a then 128 else 0 := by decide +kernel
theorem g2r : ∀ a, a < 128 → a ||| 128 = a + 128 := by decide +kernel
theorem j2m : ∀ a, a < 256 → a &&& (255 - 128) = a % 128 := by decide +kernel
section
variable {P : Program} {w : World} {o : Oper} {a : Act} {x y : Operand} {t t' : TypeId} {p q r : Int}
theorem C8 (h : bits .and .u8 p q = r) (ho : o.op = .binOp .and t x y t') (hx : a.eval x = .int .u8 p) (hy : a.eval y = .int .u8 q) : (execOp a.eval o).run P w = .ok (.value (.int .u8 r)) w := by
  subst h; simp only [execOp, ho, hx, hy]; rfl
theorem j2c (h : bits .or .u8 p q = r) (ho : o.op = .binOp .or t x y t') (hx : a.eval x = .int .u8 p) (hy : a.eval y = .int .u8 q) : (execOp a.eval o).run P w = .ok (.value (.int .u8 r)) w := by
  subst h; simp only [execOp, ho, hx, hy]; rfl
theorem R0 (h : bits .andNot .u8 p q = r) (ho : o.op = .binOp .andNot t x y t') (hx : a.eval x = .int .u8 p) (hy : a.eval y = .int .u8 q) : (execOp a.eval o).run P w = .ok (.value (.int .u8 r)) w := by
  subst h; simp only [execOp, ho, hx, hy]; rfl
end
theorem q7w {V : Nat} (hV : V < 2 ^ 256) : j0 V 31 = ((V / 2 ^ 248 : Nat) : Int) ∧ V / 2 ^ 248 < 256 := by
  have h : V / 2 ^ 248 < 256 := Nat.div_lt_of_lt_mul (by rw [← show (2 : Nat) ^ 256 = 2 ^ 248 * 256 by decide]; exact hV)
  unfold j0
  rw [show 8 * 31 = 248 by decide, Nat.mod_eq_of_lt h]
  exact ⟨rfl, h⟩
theorem y1u (V : Nat) : top V = true ↔ 128 ≤ V / 2 ^ 248 := by
  unfold top
  rw [decide_eq_true_iff]
  generalize hP : (2 : Nat) ^ 248 = P
  have e : (2 : Nat) ^ 255 = 128 * P := by rw [← hP]
  rw [e, Nat.le_div_iff_mul_le (by subst hP; decide)]
theorem y1k {V : Nat} (hV : V < 2 ^ 256) (ht : top V = true) : bits .and .u8 (j0 V 31) 128 = 128 := by
  obtain ⟨h1, h2⟩ := q7w hV
  rw [h1]
  refine (u8_and_nat _ 128 h2 (by decide)).trans ?_
  rw [y7j _ h2, if_pos ((y1u V).1 ht)]; rfl
theorem y1m {V : Nat} (hV : V < 2 ^ 256) (ht : ¬ top V = true) : bits .and .u8 (j0 V 31) 128 = 0 := by
  obtain ⟨h1, h2⟩ := q7w hV
  rw [h1]
  refine (u8_and_nat _ 128 h2 (by decide)).trans ?_
  rw [y7j _ h2, if_neg fun h => ht ((y1u V).2 h)]; rfl
theorem y1v {V j : Nat} (hj : j < 31) : j0 (V % 2 ^ 255) j = j0 V j := by
  unfold j0
  congr 1
  obtain ⟨d, hd⟩ : ∃ d, 255 = 8 * j + (8 + d) := ⟨247 - 8 * j, by omega⟩
  rw [hd, Nat.pow_add 2 (8 * j), Nat.mod_mul_right_div_self, Nat.pow_add 2 8 d, Nat.mod_mul_right_mod]
theorem j2n (V : Nat) : j0 (V % 2 ^ 255) 31 = ((V / 2 ^ 248 % 128 : Nat) : Int) := by
  unfold j0
  congr 1
  rw [show 8 * 31 = 248 by decide, show (2 : Nat) ^ 255 = 2 ^ 248 * 128 by decide, Nat.mod_mul_right_div_self]
  omega
theorem y1l {V : Nat} {r : Int} (hr : r = ((V / 2 ^ 248 % 128 : Nat) : Int)) : q7 .u8 32 (H9 (j0 V) 31 r) = q7 .u8 32 (j0 (V % 2 ^ 255)) := by
  apply n7
  intro j hj
  by_cases h : j = 31
  · subst h; rw [Q2, j2n]; exact hr
  · rw [c8 _ _ _ _ h, y1v (by omega)]
theorem q2f {V : Nat} (hV : V < 2 ^ 256) : bits .andNot .u8 (j0 V 31) 128 = ((V / 2 ^ 248 % 128 : Nat) : Int) := by
  obtain ⟨h1, h2⟩ := q7w hV
  rw [h1]
  refine (u8_andNot_nat _ 128 h2 (by decide)).trans ?_
  rw [j2m _ h2]
theorem j2o {V : Nat} (hV : V < 2 ^ 255) : bits .or .u8 (j0 V 31) 128 = j0 (V + 2 ^ 255) 31 := by
  obtain ⟨h1, h2⟩ := q7w (V := V) (Nat.lt_trans hV (by decide))
  obtain ⟨h3, h4⟩ := q7w (V := V + 2 ^ 255) (by omega)
  have h5 : V / 2 ^ 248 < 128 := Nat.div_lt_of_lt_mul (by rw [← show (2 : Nat) ^ 255 = 2 ^ 248 * 128 by decide]; exact hV)
  rw [h1, h3]
  refine (u8_or_nat _ 128 h2 (by decide)).trans ?_
  rw [g2r _ h5, show (2 : Nat) ^ 255 = 2 ^ 248 * 128 by decide, Nat.add_mul_div_left _ _ (by decide)]
theorem g1u {V : Nat} (hV : V < 2 ^ 255) : q7 .u8 32 (H9 (j0 V) 31 (bits .or .u8 (j0 V 31) 128)) = q7 .u8 32 (j0 (V + 2 ^ 255)) := by
  apply n7
  intro j hj
  by_cases h : j = 31
  · subst h; rw [Q2, j2o hV]
  · rw [c8 _ _ _ _ h, ← y1v (V := V + 2 ^ 255) (by omega), Nat.add_mod_right, Nat.mod_eq_of_lt hV]
theorem Q5 (A : Nat) : ∀ n, b6 (j0 A) n = A % 2 ^ (8 * n)
  | 0 => by rw [Nat.mul_zero, Nat.pow_zero, Nat.mod_one]; rfl
  | n + 1 => by
    show b6 (j0 A) n + (j0 A n).toNat * 2 ^ (8 * n) = _
    rw [Q5 A n, Nat.mul_add, Nat.pow_add, Nat.mod_mul, Nat.mul_comm (j0 A n).toNat]
    rfl
theorem g5u {A B : Nat} (hA : A < 2 ^ 256) (hB : B < 2 ^ 256) (h : ∀ j, j < 32 → j0 A j = j0 B j) : A = B := by
  have key : ∀ n, n ≤ 32 → b6 (j0 A) n = b6 (j0 B) n := by
    intro n
    induction n with
    | zero => intro _; rfl
    | succ n ih => intro hn; show b6 (j0 A) n + (j0 A n).toNat * _ = b6 (j0 B) n + (j0 B n).toNat * _; rw [ih (by omega), h n (by omega)]
  have := key 32 (by omega)
  rw [Q5, Q5] at this
  rwa [show 8 * 32 = 256 by decide, Nat.mod_eq_of_lt hA, Nat.mod_eq_of_lt hB] at this
theorem j5m (A B : Nat) (hA : A < 2 ^ 256) (hB : B < 2 ^ 256) (w : World) : (Op.equalIn 10000 22 (.agg (q7 .u8 32 (j0 A))) (.agg (q7 .u8 32 (j0 B)))).run Tryd.prog w = .ok (decide (A = B)) w := by
  have h := V2 (P := Tryd.prog) w 9998 22 5 32 .u8 (q7 .u8 32 (j0 A)) (q7 .u8 32 (j0 B)) (j0 A) (j0 B) Tryd.underlying22 Tryd.underlying5 (by kernel_rfl)
    (fun i hi => y9 _ _ _ _ hi) (fun i hi => y9 _ _ _ _ hi)
  rw [h]
  congr 1
  rw [Bool.eq_iff_iff, S7, decide_eq_true_iff]
  exact ⟨byt_inj hA hB, fun h => by subst h; intro _ _; rfl⟩
def lb (n V : Nat) : List UInt8 := (List.range n).map fun j => UInt8.ofNat (V / 2 ^ (8 * j) % 256)
theorem g7 (n V : Nat) : (lb n V).length = n := by simp [lb]
theorem j8c {n V j : Nat} (hj : j < n) : (lb n V)[j]? = some (UInt8.ofNat (V / 2 ^ (8 * j) % 256)) := by simp [lb, hj]
theorem y7k (V j : Nat) : ((UInt8.ofNat (V / 2 ^ (8 * j) % 256)).toNat : Int) = j0 V j := by
  unfold j0
  rw [UInt8.toNat_ofNat', Nat.mod_mod]
theorem q9i (n V : Nat) : D5 (lb n V) = q2a .u8 n (j0 V) := by
  unfold D5 lb q2a
  rw [List.map_map]
  apply List.map_congr_left
  intro j _
  simp only [Function.comp, y7k]
theorem A0 (n : Nat) (f : Nat → Int) : (q7 .u8 n f).toList = q2a .u8 n f := rfl
end Go.Proofs.YtefpoollmbmkfaaDoor

namespace Go.Proofs.YtefpoollmbmkfaaDoor
set_option maxRecDepth 100000
open Go.RowKit
section
variable {w : World} {o : Oper} {a : Act} {x y : Operand} {t t' : TypeId}
end
section
variable {ops : Array Oper} {w : World} {r : List Oper} {o : Oper} {a : Act} {E : Act → Prop}
end
def le : List UInt8 → Nat
  | [] => 0
  | x :: r => x.toNat + 256 * le r
theorem y7l : ∀ l : List UInt8, le l < 2 ^ (8 * l.length)
  | [] => by decide
  | x :: r => by
    have h := y7l r
    have hx := x.toNat_lt
    show x.toNat + 256 * le r < 2 ^ (8 * (r.length + 1))
    rw [Nat.mul_add, Nat.pow_add]
    omega
theorem R3 (n V : Nat) : lb (n + 1) V = UInt8.ofNat (V % 256) :: lb n (V / 256) := by
  unfold lb
  rw [List.range_succ_eq_map, List.map_cons, List.map_map]
  congr 1
  · rw [Nat.mul_zero, Nat.pow_zero, Nat.div_one]
  · apply List.map_congr_left
    intro j _
    simp only [Function.comp]
    rw [Nat.div_div_eq_div_mul, Nat.succ_eq_add_one, Nat.mul_add, Nat.pow_add, Nat.mul_comm (2 ^ (8 * j))]
theorem y1w : ∀ n V : Nat, V < 2 ^ (8 * n) → le (lb n V) = V
  | 0, V, h => by
    have : V < 1 := h
    obtain rfl : V = 0 := by omega
    rfl
  | n + 1, V, h => by
    rw [R3]
    show (UInt8.ofNat (V % 256)).toNat + 256 * le (lb n (V / 256)) = V
    rw [Nat.mul_add, Nat.pow_add] at h
    rw [y1w n (V / 256) (by omega), UInt8.toNat_ofNat']
    omega
end Go.Proofs.YtefpoollmbmkfaaDoor
