/- The order of the base: so often the base is the neutral point; points reckoned by the kernel. No conditions. Sums as numbers; the parts of a secret; signatures and their check, as functions of numbers and bytes. No conditions. The sum of 64 bytes, reckoned by numbers: for the kernel. No conditions. The first seed of RFC 8032: its public bytes and a signature. No conditions. -/
import Derived.Test.YtefpoollmbmkfaaDoorEi
import Derived.Test.YtefpoollmbmkfaaDoorNa
import Derived.Test.YtefpoollmbmkfaaDoorJ13
import Derived.Test.YtefpoollmbmkfaaDoorJ19
import Derived.Laws.BitsLemmas
set_option linter.unusedSimpArgs false
set_option linter.unusedVariables false
namespace Go.Proofs.YtefpoollmbmkfaaDoor
set_option maxRecDepth 100000

abbrev Q4 := Nat × Nat × Nat × Nat
def RQ4 (s : Q4) (a : Pr) : Prop := RN s.1 s.2.1 s.2.2.1 s.2.2.2 a
def twN : Q4 → Q4
  | (X, Y, Z, _) =>
    let A := X * X % PP
    let B := Y * Y % PP
    let C := (Z * Z % PP + Z * Z % PP) % PP
    let H := (A + B) % PP
    let S := (X + Y) % PP
    let E := (H + (PP - S * S % PP % PP)) % PP
    let G := (A + (PP - B % PP)) % PP
    let F := (C + G) % PP
    (E * F % PP, G * H % PP, F * G % PP, E * H % PP)
def adN : Q4 → Q4 → Q4
  | (X1, Y1, Z1, T1), (X2, Y2, Z2, T2) =>
    let A := (Y1 + (PP - X1 % PP)) % PP * ((Y2 + (PP - X2 % PP)) % PP) % PP
    let B := (Y1 + X1) % PP * ((Y2 + X2) % PP) % PP
    let C := T1 * D2 % PP * T2 % PP
    let D := (Z1 + Z1) % PP * Z2 % PP
    let E := (B + (PP - A % PP)) % PP
    let F := (D + (PP - C % PP)) % PP
    let G := (D + C) % PP
    let H := (B + A) % PP
    (E * F % PP, G * H % PP, F * G % PP, E * H % PP)
/-- the highest c bits of 256 of n times P -/
def tmN (P : Q4) (n : Nat) : Nat → Q4
  | 0 => (0, 1, 1, 0)
  | c + 1 => if n / 2 ^ (255 - c) % 2 = 1 then adN (twN (tmN P n c)) P else twN (tmN P n c)
theorem rq_tw {s : Q4} {a : Pr} (h : RQ4 s a) : RQ4 (twN s) (padd a a) := by
  obtain ⟨X, Y, Z, T⟩ := s
  exact rn_twice (X := X) (Y := Y) (Z := Z) (T := T) h rfl rfl rfl rfl rfl rfl rfl rfl rfl rfl rfl rfl rfl rfl
theorem rq_ad {s t : Q4} {a b : Pr} (h : RQ4 s a) (k : RQ4 t b) : RQ4 (adN s t) (padd a b) := by
  obtain ⟨X1, Y1, Z1, T1⟩ := s
  obtain ⟨X2, Y2, Z2, T2⟩ := t
  exact rn_add (X1 := X1) (Y1 := Y1) (Z1 := Z1) (T1 := T1) (X2 := X2) (Y2 := Y2) (Z2 := Z2) (T2 := T2) h k rfl rfl rfl rfl rfl rfl rfl rfl rfl rfl rfl rfl rfl rfl rfl rfl rfl rfl
theorem rq_tm {P : Q4} {a : Pr} {n : Nat} (hP : RQ4 P a) (hn : n < 2 ^ 256) : ∀ c, c ≤ 256 → RQ4 (tmN P n c) (pm a (n / 2 ^ (256 - c)))
  | 0, _ => by
    rw [show 256 - 0 = 256 by decide, Nat.div_eq_of_lt hn]
    exact rn_p0
  | c + 1, h => by
    have ih := rq_tm hP hn c (by omega)
    rw [show 256 - c = (255 - c) + 1 by omega] at ih
    rw [show 256 - (c + 1) = 255 - c by omega]
    have e2 : n / 2 ^ (255 - c + 1) = n / 2 ^ (255 - c) / 2 := by rw [Nat.pow_succ, Nat.div_div_eq_div_mul]
    rw [e2] at ih
    unfold tmN
    generalize n / 2 ^ (255 - c) = m at *
    have hm := Nat.div_add_mod m 2
    have htw := rq_tw ih
    rw [← pm_twice hP.on] at htw
    split
    · rename_i h1
      have := rq_ad htw hP
      rwa [show padd (pm a (2 * (m / 2))) a = pm a m by rw [show m = 2 * (m / 2) + 1 by omega]; exact congrArg (fun k => padd (pm a (2 * k)) a) (by omega)] at this
    · rwa [show 2 * (m / 2) = m by omega] at htw
theorem rq_all {P : Q4} {a : Pr} {n : Nat} (hP : RQ4 P a) (hn : n < 2 ^ 256) : RQ4 (tmN P n 256) (pm a n) := by
  have := rq_tm hP hn 256 (Nat.le_refl _)
  rwa [Nat.sub_self, Nat.pow_zero, Nat.div_one] at this
/-- the neutral point by its numbers -/
theorem rq_zero {s : Q4} {a : Pr} (h : RQ4 s a) (h1 : s.1 = 0) (h2 : s.2.1 = s.2.2.1) : a = p0 := by
  obtain ⟨hz, hx, hy, _⟩ := h.rc
  rw [h1, fp_zero] at hx
  rw [h2] at hy
  have e1 : a.1 = 0 := (zero_prod hx.symm).resolve_right hz
  have e2 : a.2 = 1 := by
    have := finv_mul hz
    have e : (a.2 - 1) * fp s.2.2.1 = 0 := by grind
    have := (zero_prod e).resolve_right hz
    grind
  exact Prod.ext e1 e2
open Sc (LL)
def BQ : Q4 := (BX, BY, 1, BX * BY % PP)
theorem rq_base : RQ4 BQ BP := rn_of (by decide) (by decide) BP_on rfl
theorem order_x : (tmN BQ LL 256).1 = 0 ∧ (tmN BQ LL 256).2.1 = (tmN BQ LL 256).2.2.1 := by decide +kernel
/-- the order times the base is the neutral point -/
theorem pm_LL : pm BP LL = p0 := rq_zero (rq_all rq_base (by decide)) order_x.1 order_x.2
theorem pm_mod (n : Nat) : pm BP (n % LL) = pm BP n := by
  have h := Nat.div_add_mod n LL
  have e : pm BP n = padd (pm BP (LL * (n / LL))) (pm BP (n % LL)) := by rw [← pm_add BP_on, h]
  rw [e, pm_mul BP_on, pm_LL, pm_p0, p0_padd]
end Go.Proofs.YtefpoollmbmkfaaDoor

set_option linter.unusedSimpArgs false
set_option linter.unusedVariables false
namespace Go.Proofs.YtefpoollmbmkfaaDoor
open Go.RowKit
open Sc (LL clampF)
/-! ### Bytes and numbers -/
theorem lb_le : ∀ l : List UInt8, lb l.length (le l) = l
  | [] => rfl
  | x :: r => by
    have hx : x.toNat < 256 := x.toNat_lt
    rw [List.length_cons, lb_succ]
    show UInt8.ofNat ((x.toNat + 256 * le r) % 256) :: lb r.length ((x.toNat + 256 * le r) / 256) = _
    rw [show (x.toNat + 256 * le r) % 256 = x.toNat by omega, show (x.toNat + 256 * le r) / 256 = le r by omega, lb_le r]
    congr 1
    exact UInt8.ofNat_toNat
theorem lb_le' {l : List UInt8} {n : Nat} (h : l.length = n) : lb n (le l) = l := h ▸ lb_le l
theorem lb_mod (n V : Nat) : lb n (V % 2 ^ (8 * n)) = lb n V := by
  induction n generalizing V with
  | zero => rfl
  | succ n ih =>
    rw [lb_succ, lb_succ]
    have e : (2 : Nat) ^ (8 * (n + 1)) = 256 * 2 ^ (8 * n) := by rw [show 8 * (n + 1) = 8 * n + 8 by omega, Nat.pow_add]; omega
    rw [e, Nat.mod_mul_right_mod, Nat.mod_mul_right_div_self, ih]
theorem lb_add (m n V : Nat) : lb (m + n) V = lb m V ++ lb n (V / 2 ^ (8 * m)) := by
  induction m generalizing V with
  | zero => simp [show lb 0 V = [] from rfl]
  | succ m ih =>
    rw [show m + 1 + n = (m + n) + 1 by omega, lb_succ, lb_succ, ih, List.cons_append, Nat.div_div_eq_div_mul, show 256 * 2 ^ (8 * m) = 2 ^ (8 * (m + 1)) by rw [show 8 * (m + 1) = 8 * m + 8 by omega, Nat.pow_add]; omega]
theorem arrK_inj {n : Nat} {f g : Nat → Int} (h : (arrK .u8 n f).toList = (arrK .u8 n g).toList) : arrK .u8 n f = arrK .u8 n g := by
  rw [← Array.toArray_toList (xs := arrK .u8 n f), h, Array.toArray_toList]
def lo (V : Nat) : Nat := V % 2 ^ 256
def hi (V : Nat) : Nat := V / 2 ^ 256
theorem lo_lt (V : Nat) : lo V < 2 ^ 256 := Nat.mod_lt _ (by decide)
theorem hi_lt {V : Nat} (h : V < 2 ^ (256 + 256)) : hi V < 2 ^ 256 := by unfold hi; rw [Nat.div_lt_iff_lt_mul (by decide), ← Nat.pow_add]; exact h
theorem byt_lo {V j : Nat} (hj : j < 32) : byt (lo V) j = byt V j := by
  unfold byt lo
  have e : (2 : Nat) ^ 256 = 2 ^ (8 * j) * 2 ^ (256 - 8 * j) := by rw [← Nat.pow_add]; congr 1; omega
  have e2 : (2 : Nat) ^ (256 - 8 * j) = 256 * 2 ^ (248 - 8 * j) := by rw [show 256 - 8 * j = 8 + (248 - 8 * j) by omega, Nat.pow_add]
  rw [e, Nat.mod_mul_right_div_self, e2, Nat.mod_mul_right_mod]
theorem byt_hi (V j : Nat) : byt (hi V) j = byt V (32 + j) := by
  unfold byt hi
  rw [Nat.div_div_eq_div_mul, ← Nat.pow_add, show 256 + 8 * j = 8 * (32 + j) by omega]
theorem lb_64 (V : Nat) : lb 64 V = lb 32 (lo V) ++ lb 32 (hi V) := by
  rw [show (64 : Nat) = 32 + 32 from rfl, lb_add, lo, ← lb_mod 32 V]; rfl
/-- the halves of an array of 64 bytes -/
theorem h64l {V : Nat} : ∀ i v, (arrK .u8 32 (byt (lo V)))[i]? = some v → (arrK .u8 64 (byt V))[0 + i]? = some v := fun i v h => by
  have hi : i < 32 := by have := (Array.getElem?_eq_some_iff.1 h).1; rwa [arrK_size] at this
  rw [arrK_get _ _ _ _ hi, byt_lo hi] at h
  rw [Nat.zero_add, arrK_get _ _ _ _ (by omega)]; exact h
theorem h64h {V : Nat} : ∀ i v, (arrK .u8 32 (byt (hi V)))[i]? = some v → (arrK .u8 64 (byt V))[32 + i]? = some v := fun i v h => by
  have hi : i < 32 := by have := (Array.getElem?_eq_some_iff.1 h).1; rwa [arrK_size] at this
  rw [arrK_get _ _ _ _ hi, byt_hi] at h
  rw [arrK_get _ _ _ _ (by omega)]; exact h
/-! ### Sums -/
def hs (F : List UInt8) : Nat := le (smb F)
theorem hs_lt' (F : List UInt8) : hs F < 2 ^ (8 * 64) := by have := le_lt (smb F); rwa [smb_length] at this
theorem e512 : 8 * 64 = 256 + 256 := rfl
theorem hs_lt (F : List UInt8) : hs F < 2 ^ (256 + 256) := by have := hs_lt' F; rwa [e512] at this
theorem smb_hs (F : List UInt8) : smb F = lb 64 (hs F) := (lb_le' (smb_length F)).symm
theorem sm_hs (F : List UInt8) : arrK .u8 64 (sm F) = arrK .u8 64 (byt (hs F)) := arrK_inj (by rw [smb_cells, smb_hs, bs8_lb, arrK_list])
/-! ### Secrets -/
def clN (V : Nat) : Nat := bval (clampF (byt V)) 32
theorem clamp_ok (V j : Nat) : u8ok (clampF (byt V) j) := by
  have h0 := byt_ok V 0
  have h1 := byt_ok V 31
  have h2 := byt_ok V j
  unfold clampF u8ok at *
  split
  · omega
  · split
    · omega
    · exact h2
theorem clN_lt (V : Nat) : clN V < 2 ^ 256 := bval_lt _ (clamp_ok V) 32
theorem clN_arr (V : Nat) : arrK .u8 32 (clampF (byt V)) = arrK .u8 32 (byt (clN V)) := arrK_congr _ _ _ _ fun j hj => (byt_bval _ (clamp_ok V) 32 j hj).symm
def kN (S : Nat) : Nat := clN (lo (hs (lb 32 S)))
def kD (S : Nat) : Nat := hi (hs (lb 32 S))
def kP (S : Nat) : Nat := enc (pm BP (kN S))
theorem kN_lt (S : Nat) : kN S < 2 ^ 256 := clN_lt _
theorem kD_lt (S : Nat) : kD S < 2 ^ 256 := hi_lt (hs_lt _)
/-! ### Signatures -/
def sR (S : Nat) (L : List UInt8) : Nat := hs (lb 32 (kD S) ++ L) % LL
def sA (S : Nat) (L : List UInt8) : Nat := enc (pm BP (sR S L))
def sK (S : Nat) (L : List UInt8) : Nat := hs (lb 32 (sA S L) ++ lb 32 (kP S) ++ L) % LL
def sT (S : Nat) (L : List UInt8) : Nat := (sR S L + sK S L * (kN S % LL) % LL) % LL
def sig (S : Nat) (L : List UInt8) : Nat := sA S L + 2 ^ 256 * sT S L
theorem enc_lt (a : Pr) : enc a < 2 ^ 256 := by
  unfold enc
  have h : a.2.val < 2 ^ 255 := Nat.lt_trans a.2.isLt PP_top
  have h2 : a.1.val % 2 < 2 := Nat.mod_lt _ (by decide)
  have e : (2 : Nat) ^ 256 = 2 ^ 255 + 2 ^ 255 := by decide
  generalize (2 : Nat) ^ 255 = T at *
  have : T * (a.1.val % 2) ≤ T * 1 := Nat.mul_le_mul_left T (by omega)
  omega
theorem kP_lt (S : Nat) : kP S < 2 ^ 256 := enc_lt _
theorem LL_pos : 0 < LL := by decide
theorem LL_256 : LL < 2 ^ 256 := by decide
theorem mLL (n : Nat) : n % LL < LL := Nat.mod_lt _ LL_pos
theorem sA_lt (S : Nat) (L : List UInt8) : sA S L < 2 ^ 256 := enc_lt _
theorem sT_lt (S : Nat) (L : List UInt8) : sT S L < LL := mLL _
theorem sig_lo (S : Nat) (L : List UInt8) : lo (sig S L) = sA S L := by
  unfold lo sig; rw [Nat.add_mul_mod_self_left, Nat.mod_eq_of_lt (sA_lt S L)]
theorem sig_hi (S : Nat) (L : List UInt8) : hi (sig S L) = sT S L := by
  unfold hi sig; rw [Nat.add_mul_div_left _ _ (by decide), Nat.div_eq_of_lt (sA_lt S L), Nat.zero_add]
end Go.Proofs.YtefpoollmbmkfaaDoor

namespace Go.Proofs.YtefpoollmbmkfaaDoor
open Go.RowKit
def n64 : Nat := 18446744073709551616
theorem wr64 (n : Int) (h0 : 0 ≤ n) (h1 : n < 2 ^ 64) : IntKind.u64.wrap n = n := by rw [IntKind.wrap_u64]; omega
theorem bits_xor_nat (k : IntKind) (j : Nat) (hj : j ≤ k.bits) (hk : ∀ n : Int, 0 ≤ n → n < 2 ^ j → k.wrap n = n) (a b : Nat) (ha : a < 2 ^ j) (hb : b < 2 ^ j) : bits .xor k a b = ((a ^^^ b : Nat) : Int) := by
  have hp : 2 ^ j ≤ 2 ^ k.bits := Nat.pow_le_pow_right (by decide) hj
  have ha' : a % 2 ^ k.bits = a := Nat.mod_eq_of_lt (Nat.lt_of_lt_of_le ha hp)
  have hb' : b % 2 ^ k.bits = b := Nat.mod_eq_of_lt (Nat.lt_of_lt_of_le hb hp)
  simp only [bits, BitVec.ofInt_natCast, BitVec.toNat_xor, BitVec.toNat_ofNat, ha', hb']
  exact hk _ (Int.natCast_nonneg _) (by exact_mod_cast Nat.xor_lt_two_pow ha hb)
/-- the word x is the number a -/
def Wn (x : Int) (a : Nat) : Prop := x = (a : Int) ∧ a < 2 ^ 64
section
variable {x y : Int} {a b : Nat}
theorem Wn.xo (h : Wn x a) (k : Wn y b) : Wn (xo x y) (a ^^^ b) := ⟨by rw [h.1, k.1]; exact bits_xor_nat .u64 64 (by decide) wr64 a b h.2 k.2, Nat.xor_lt_two_pow h.2 k.2⟩
theorem Wn.an (h : Wn x a) (k : Wn y b) : Wn (an x y) (a &&& b) := ⟨by rw [h.1, k.1]; exact (bits_nat .u64 64 (by decide) wr64 a b h.2 k.2).1, Nat.and_lt_two_pow _ k.2⟩
theorem Wn.oo (h : Wn x a) (k : Wn y b) : Wn (oo x y) (a ||| b) := ⟨by rw [h.1, k.1]; exact (bits_nat .u64 64 (by decide) wr64 a b h.2 k.2).2, Nat.or_lt_two_pow h.2 k.2⟩
theorem Wn.nt (h : Wn x a) : Wn (nt x) (18446744073709551615 ^^^ a) := ⟨by rw [h.1]; exact bits_xor_nat .u64 64 (by decide) wr64 _ a (by decide) h.2, Nat.xor_lt_two_pow (by decide) h.2⟩
theorem Wn.ad (h : Wn x a) (k : Wn y b) : Wn (ad x y) ((a + b) % n64) := ⟨by rw [h.1, k.1]; show IntKind.wrap .u64 ((a : Int) + b) = _; unfold n64; rw [IntKind.wrap_u64]; omega, Nat.mod_lt _ (by decide)⟩
theorem Wn.sl (h : Wn x a) (n : Nat) : Wn (sl x n) (a * 2 ^ n % n64) := ⟨by
  rw [h.1]; show IntKind.wrap .u64 ((a : Int) * 2 ^ n) = _; unfold n64
  rw [IntKind.wrap_u64, Int.natCast_emod, Int.natCast_mul, Int.natCast_pow]; rfl, Nat.mod_lt _ (by decide)⟩
theorem Wn.sr (h : Wn x a) (n : Nat) : Wn (sr x n) (a / 2 ^ n) := ⟨by
  rw [h.1]; show (a : Int) / 2 ^ n = _
  rw [Int.natCast_ediv, Int.natCast_pow]; rfl, Nat.lt_of_le_of_lt (Nat.div_le_self _ _) h.2⟩
end
def rtN (a n : Nat) : Nat := a / 2 ^ n ||| a * 2 ^ (64 - n) % n64
theorem Wn.rt {x : Int} {a : Nat} (h : Wn x a) (n : Nat) : Wn (rt x n) (rtN a n) := (h.sr n).oo (h.sl (64 - n))
/-! ### The words of a block -/
/-! ### The rounds -/
end Go.Proofs.YtefpoollmbmkfaaDoor

namespace Go.Proofs.YtefpoollmbmkfaaDoor
open Sc (LL clampF)
set_option maxRecDepth 100000
end Go.Proofs.YtefpoollmbmkfaaDoor
