/- Sums as numbers; the parts of a secret; signatures and their check, as functions of numbers and bytes. No conditions. The sum of 64 bytes, reckoned by numbers: for the kernel. No conditions. The first seed of RFC 8032: its public bytes and a signature. No conditions. -/
import Derived.Test.YtefpoollmbmkfaaDoorJ13
import Derived.Test.YtefpoollmbmkfaaDoorEi
import Derived.Test.YtefpoollmbmkfaaDoorJ21
import Derived.Test.YtefpoollmbmkfaaDoorJ20
import Derived.Laws.BitsLemmas
set_option linter.unusedSimpArgs false
set_option linter.unusedVariables false
namespace Go.Proofs.YtefpoollmbmkfaaDoor
open Go.RowKit
open Sc (LL clampF)
/-! ### Bytes and numbers -/
theorem lb_le : ∀ l : List UInt8, lb l.length (le l) = l
  | [] => rfl
  | x :: r => by
    have hx : x.toNat < 256 := x.toNat_lt
    rw [List.length_cons, lb_succ]
    show UInt8.ofNat ((x.toNat + 256 * le r) % 256) :: lb r.length ((x.toNat + 256 * le r) / 256) = _
    rw [show (x.toNat + 256 * le r) % 256 = x.toNat by omega, show (x.toNat + 256 * le r) / 256 = le r by omega, lb_le r]
    congr 1
    exact UInt8.ofNat_toNat
theorem lb_le' {l : List UInt8} {n : Nat} (h : l.length = n) : lb n (le l) = l := h ▸ lb_le l
theorem lb_mod (n V : Nat) : lb n (V % 2 ^ (8 * n)) = lb n V := by
  induction n generalizing V with
  | zero => rfl
  | succ n ih =>
    rw [lb_succ, lb_succ]
    have e : (2 : Nat) ^ (8 * (n + 1)) = 256 * 2 ^ (8 * n) := by rw [show 8 * (n + 1) = 8 * n + 8 by omega, Nat.pow_add]; omega
    rw [e, Nat.mod_mul_right_mod, Nat.mod_mul_right_div_self, ih]
theorem lb_add (m n V : Nat) : lb (m + n) V = lb m V ++ lb n (V / 2 ^ (8 * m)) := by
  induction m generalizing V with
  | zero => simp [show lb 0 V = [] from rfl]
  | succ m ih =>
    rw [show m + 1 + n = (m + n) + 1 by omega, lb_succ, lb_succ, ih, List.cons_append, Nat.div_div_eq_div_mul, show 256 * 2 ^ (8 * m) = 2 ^ (8 * (m + 1)) by rw [show 8 * (m + 1) = 8 * m + 8 by omega, Nat.pow_add]; omega]
theorem arrK_inj {n : Nat} {f g : Nat → Int} (h : (arrK .u8 n f).toList = (arrK .u8 n g).toList) : arrK .u8 n f = arrK .u8 n g := by
  rw [← Array.toArray_toList (xs := arrK .u8 n f), h, Array.toArray_toList]
def lo (V : Nat) : Nat := V % 2 ^ 256
def hi (V : Nat) : Nat := V / 2 ^ 256
theorem lo_lt (V : Nat) : lo V < 2 ^ 256 := Nat.mod_lt _ (by decide)
theorem hi_lt {V : Nat} (h : V < 2 ^ (256 + 256)) : hi V < 2 ^ 256 := by unfold hi; rw [Nat.div_lt_iff_lt_mul (by decide), ← Nat.pow_add]; exact h
theorem byt_lo {V j : Nat} (hj : j < 32) : byt (lo V) j = byt V j := by
  unfold byt lo
  have e : (2 : Nat) ^ 256 = 2 ^ (8 * j) * 2 ^ (256 - 8 * j) := by rw [← Nat.pow_add]; congr 1; omega
  have e2 : (2 : Nat) ^ (256 - 8 * j) = 256 * 2 ^ (248 - 8 * j) := by rw [show 256 - 8 * j = 8 + (248 - 8 * j) by omega, Nat.pow_add]
  rw [e, Nat.mod_mul_right_div_self, e2, Nat.mod_mul_right_mod]
theorem byt_hi (V j : Nat) : byt (hi V) j = byt V (32 + j) := by
  unfold byt hi
  rw [Nat.div_div_eq_div_mul, ← Nat.pow_add, show 256 + 8 * j = 8 * (32 + j) by omega]
/-- the halves of an array of 64 bytes -/
theorem h64l {V : Nat} : ∀ i v, (arrK .u8 32 (byt (lo V)))[i]? = some v → (arrK .u8 64 (byt V))[0 + i]? = some v := fun i v h => by
  have hi : i < 32 := by have := (Array.getElem?_eq_some_iff.1 h).1; rwa [arrK_size] at this
  rw [arrK_get _ _ _ _ hi, byt_lo hi] at h
  rw [Nat.zero_add, arrK_get _ _ _ _ (by omega)]; exact h
theorem h64h {V : Nat} : ∀ i v, (arrK .u8 32 (byt (hi V)))[i]? = some v → (arrK .u8 64 (byt V))[32 + i]? = some v := fun i v h => by
  have hi : i < 32 := by have := (Array.getElem?_eq_some_iff.1 h).1; rwa [arrK_size] at this
  rw [arrK_get _ _ _ _ hi, byt_hi] at h
  rw [arrK_get _ _ _ _ (by omega)]; exact h
/-! ### Sums -/
def hs (F : List UInt8) : Nat := le (smb F)
theorem hs_lt' (F : List UInt8) : hs F < 2 ^ (8 * 64) := by have := le_lt (smb F); rwa [smb_length] at this
theorem e512 : 8 * 64 = 256 + 256 := rfl
theorem hs_lt (F : List UInt8) : hs F < 2 ^ (256 + 256) := by have := hs_lt' F; rwa [e512] at this
theorem smb_hs (F : List UInt8) : smb F = lb 64 (hs F) := (lb_le' (smb_length F)).symm
theorem sm_hs (F : List UInt8) : arrK .u8 64 (sm F) = arrK .u8 64 (byt (hs F)) := arrK_inj (by rw [smb_cells, smb_hs, bs8_lb, arrK_list])
/-! ### Secrets -/
def clN (V : Nat) : Nat := bval (clampF (byt V)) 32
theorem clamp_ok (V j : Nat) : u8ok (clampF (byt V) j) := by
  have h0 := byt_ok V 0
  have h1 := byt_ok V 31
  have h2 := byt_ok V j
  unfold clampF u8ok at *
  split
  · omega
  · split
    · omega
    · exact h2
theorem clN_lt (V : Nat) : clN V < 2 ^ 256 := bval_lt _ (clamp_ok V) 32
theorem clN_arr (V : Nat) : arrK .u8 32 (clampF (byt V)) = arrK .u8 32 (byt (clN V)) := arrK_congr _ _ _ _ fun j hj => (byt_bval _ (clamp_ok V) 32 j hj).symm
def kN (S : Nat) : Nat := clN (lo (hs (lb 32 S)))
def kD (S : Nat) : Nat := hi (hs (lb 32 S))
def kP (S : Nat) : Nat := enc (pm BP (kN S))
theorem kN_lt (S : Nat) : kN S < 2 ^ 256 := clN_lt _
theorem kD_lt (S : Nat) : kD S < 2 ^ 256 := hi_lt (hs_lt _)
/-! ### Signatures -/
theorem enc_lt (a : Pr) : enc a < 2 ^ 256 := by
  unfold enc
  have h : a.2.val < 2 ^ 255 := Nat.lt_trans a.2.isLt PP_top
  have h2 : a.1.val % 2 < 2 := Nat.mod_lt _ (by decide)
  have e : (2 : Nat) ^ 256 = 2 ^ 255 + 2 ^ 255 := by decide
  generalize (2 : Nat) ^ 255 = T at *
  have : T * (a.1.val % 2) ≤ T * 1 := Nat.mul_le_mul_left T (by omega)
  omega
theorem kP_lt (S : Nat) : kP S < 2 ^ 256 := enc_lt _
theorem LL_pos : 0 < LL := by decide
theorem LL_256 : LL < 2 ^ 256 := by decide
theorem mLL (n : Nat) : n % LL < LL := Nat.mod_lt _ LL_pos
end Go.Proofs.YtefpoollmbmkfaaDoor

namespace Go.Proofs.YtefpoollmbmkfaaDoor
open Go.RowKit
def n64 : Nat := 18446744073709551616
theorem wr64 (n : Int) (h0 : 0 ≤ n) (h1 : n < 2 ^ 64) : IntKind.u64.wrap n = n := by rw [IntKind.wrap_u64]; omega
theorem bits_xor_nat (k : IntKind) (j : Nat) (hj : j ≤ k.bits) (hk : ∀ n : Int, 0 ≤ n → n < 2 ^ j → k.wrap n = n) (a b : Nat) (ha : a < 2 ^ j) (hb : b < 2 ^ j) : bits .xor k a b = ((a ^^^ b : Nat) : Int) := by
  have hp : 2 ^ j ≤ 2 ^ k.bits := Nat.pow_le_pow_right (by decide) hj
  have ha' : a % 2 ^ k.bits = a := Nat.mod_eq_of_lt (Nat.lt_of_lt_of_le ha hp)
  have hb' : b % 2 ^ k.bits = b := Nat.mod_eq_of_lt (Nat.lt_of_lt_of_le hb hp)
  simp only [bits, BitVec.ofInt_natCast, BitVec.toNat_xor, BitVec.toNat_ofNat, ha', hb']
  exact hk _ (Int.natCast_nonneg _) (by exact_mod_cast Nat.xor_lt_two_pow ha hb)
/-- the word x is the number a -/
def Wn (x : Int) (a : Nat) : Prop := x = (a : Int) ∧ a < 2 ^ 64
section
variable {x y : Int} {a b : Nat}
theorem Wn.xo (h : Wn x a) (k : Wn y b) : Wn (xo x y) (a ^^^ b) := ⟨by rw [h.1, k.1]; exact bits_xor_nat .u64 64 (by decide) wr64 a b h.2 k.2, Nat.xor_lt_two_pow h.2 k.2⟩
theorem Wn.an (h : Wn x a) (k : Wn y b) : Wn (an x y) (a &&& b) := ⟨by rw [h.1, k.1]; exact (bits_nat .u64 64 (by decide) wr64 a b h.2 k.2).1, Nat.and_lt_two_pow _ k.2⟩
theorem Wn.oo (h : Wn x a) (k : Wn y b) : Wn (oo x y) (a ||| b) := ⟨by rw [h.1, k.1]; exact (bits_nat .u64 64 (by decide) wr64 a b h.2 k.2).2, Nat.or_lt_two_pow h.2 k.2⟩
theorem Wn.nt (h : Wn x a) : Wn (nt x) (18446744073709551615 ^^^ a) := ⟨by rw [h.1]; exact bits_xor_nat .u64 64 (by decide) wr64 _ a (by decide) h.2, Nat.xor_lt_two_pow (by decide) h.2⟩
theorem Wn.ad (h : Wn x a) (k : Wn y b) : Wn (ad x y) ((a + b) % n64) := ⟨by rw [h.1, k.1]; show IntKind.wrap .u64 ((a : Int) + b) = _; unfold n64; rw [IntKind.wrap_u64]; omega, Nat.mod_lt _ (by decide)⟩
theorem Wn.sl (h : Wn x a) (n : Nat) : Wn (sl x n) (a * 2 ^ n % n64) := ⟨by
  rw [h.1]; show IntKind.wrap .u64 ((a : Int) * 2 ^ n) = _; unfold n64
  rw [IntKind.wrap_u64, Int.natCast_emod, Int.natCast_mul, Int.natCast_pow]; rfl, Nat.mod_lt _ (by decide)⟩
theorem Wn.sr (h : Wn x a) (n : Nat) : Wn (sr x n) (a / 2 ^ n) := ⟨by
  rw [h.1]; show (a : Int) / 2 ^ n = _
  rw [Int.natCast_ediv, Int.natCast_pow]; rfl, Nat.lt_of_le_of_lt (Nat.div_le_self _ _) h.2⟩
end
def rtN (a n : Nat) : Nat := a / 2 ^ n ||| a * 2 ^ (64 - n) % n64
theorem Wn.rt {x : Int} {a : Nat} (h : Wn x a) (n : Nat) : Wn (rt x n) (rtN a n) := (h.sr n).oo (h.sl (64 - n))
/-! ### The words of a block -/
def wrdN (b : Nat → Nat) (i : Nat) : Nat → Nat
  | 0 => 0
  | k + 1 => wrdN b i k * 2 ^ 8 % n64 ||| b (8 * i + k)
def bN (l : List UInt8) (j : Nat) : Nat := (l.getD j 0).toNat
theorem bt_wn (l : List UInt8) (j : Nat) : Wn (bt l j) (bN l j) := ⟨rfl, Nat.lt_trans (l.getD j 0).toNat_lt (by decide)⟩
theorem wrd_wn (l : List UInt8) (i : Nat) : ∀ k, Wn (wrd (bt l) i k) (wrdN (bN l) i k)
  | 0 => ⟨rfl, Nat.two_pow_pos 64⟩
  | k + 1 => ((wrd_wn l i k).sl 8).oo (bt_wn l _)
/-- the next word of those behind it (the newest first) -/
def sgN (l : List Nat) : Nat :=
  let p := l.getD 14 0
  let q := l.getD 1 0
  (((l.getD 15 0 + (rtN p 1 ^^^ rtN p 8 ^^^ p / 2 ^ 7)) % n64 + l.getD 6 0) % n64 + (rtN q 19 ^^^ rtN q 61 ^^^ q / 2 ^ 6)) % n64
def schN (b : Nat → Nat) : Nat → List Nat
  | 0 => []
  | i + 1 => (if i < 16 then wrdN b i 8 else sgN (schN b i)) :: schN b i
theorem sch_wn (l : List UInt8) : ∀ i, ∀ j, j < i → Wn (sch (bt l) i j) ((schN (bN l) i).getD (i - 1 - j) 0)
  | 0, _, h => by omega
  | i + 1, j, h => by
    have ih := sch_wn l i
    show Wn (upd (sch (bt l) i) i (if i < 16 then wrd (bt l) i 8 else sg (sch (bt l) i) i) j) _
    unfold upd schN
    by_cases e : j = i
    · subst e
      rw [if_pos rfl, show j + 1 - 1 - j = 0 by omega, List.getD_cons_zero]
      by_cases h16 : j < 16
      · rw [if_pos h16, if_pos h16]; exact wrd_wn l j 8
      · rw [if_neg h16, if_neg h16]
        have g : ∀ m, m < 16 → Wn (sch (bt l) j (j - (m + 1))) ((schN (bN l) j).getD m 0) := fun m hm => by
          have := ih (j - (m + 1)) (by omega)
          rwa [show j - 1 - (j - (m + 1)) = m by omega] at this
        have g14 := g 14 (by decide)
        have g1 := g 1 (by decide)
        exact (((g 15 (by decide)).ad (((g14.rt 1).xo (g14.rt 8)).xo (g14.sr 7))).ad (g 6 (by decide))).ad (((g1.rt 19).xo (g1.rt 61)).xo (g1.sr 6))
    · rw [if_neg e, show i + 1 - 1 - j = (i - 1 - j) + 1 by omega, List.getD_cons_succ]
      exact ih j (by omega)
/-! ### The rounds -/
abbrev S8 := Nat × Nat × Nat × Nat × Nat × Nat × Nat × Nat
def rndN (k w : Nat) : S8 → S8
  | (a, b, c, d, e, f, g, h) =>
    let t := ((((h + (rtN e 14 ^^^ rtN e 18 ^^^ rtN e 41)) % n64 + ((e &&& f) ^^^ ((18446744073709551615 ^^^ e) &&& g))) % n64 + k) % n64 + w) % n64
    let u := ((rtN a 28 ^^^ rtN a 34 ^^^ rtN a 39) + ((a &&& b) ^^^ (a &&& c) ^^^ (b &&& c))) % n64
    ((t + u) % n64, a, b, c, (d + t) % n64, e, f, g)
def Wn8 (v : Nat → Int) : S8 → Prop
  | (a, b, c, d, e, f, g, h) => Wn (v 0) a ∧ Wn (v 1) b ∧ Wn (v 2) c ∧ Wn (v 3) d ∧ Wn (v 4) e ∧ Wn (v 5) f ∧ Wn (v 6) g ∧ Wn (v 7) h
theorem rnd_wn {k w v : Nat → Int} {i kn wn : Nat} {s : S8} (hk : Wn (k i) kn) (hw : Wn (w i) wn) (h : Wn8 v s) : Wn8 (rnd k w i v) (rndN kn wn s) := by
  obtain ⟨a, b, c, d, e, f, g, h'⟩ := s
  obtain ⟨h0, h1, h2, h3, h4, h5, h6, h7⟩ := h
  have hT : Wn (rT k w i v) _ := (((h7.ad (((h4.rt 14).xo (h4.rt 18)).xo (h4.rt 41))).ad ((h4.an h5).xo (h4.nt.an h6))).ad hk).ad hw
  have hU : Wn (rU v) _ := (((h0.rt 28).xo (h0.rt 34)).xo (h0.rt 39)).ad (((h0.an h1).xo (h0.an h2)).xo (h1.an h2))
  exact ⟨hT.ad hU, h0, h1, h2, h3.ad hT, h4, h5, h6⟩
def kkN (i : Nat) : Nat := (kk.getD i 0).toNat
theorem kf_wn (i : Nat) (h : i < 80) : Wn (kf i) (kkN i) := by
  have key : ((List.range 80).all fun i => decide (kf i = (kkN i : Int)) && decide (kkN i < 2 ^ 64)) = true := by decide +kernel
  have := List.all_eq_true.1 key i (List.mem_range.2 h)
  simp only [Bool.and_eq_true, decide_eq_true_eq] at this
  exact this
def rndsN (W : List Nat) (s : S8) : Nat → S8
  | 0 => s
  | i + 1 => rndN (kkN i) (W.getD (79 - i) 0) (rndsN W s i)
theorem rnds_wn {l : List UInt8} {v : Nat → Int} {s : S8} (h : Wn8 v s) : ∀ i, i ≤ 80 → Wn8 (rnds kf (sch (bt l) 80) v i) (rndsN (schN (bN l) 80) s i)
  | 0, _ => h
  | i + 1, hi => rnd_wn (kf_wn i (by omega)) (by have := sch_wn l 80 i (by omega); rwa [show 80 - 1 - i = 79 - i by omega] at this) (rnds_wn h i (by omega))
def prsN (l : List UInt8) (s : S8) : S8 :=
  match s, rndsN (schN (bN l) 80) s 80 with
  | (a, b, c, d, e, f, g, h), (a', b', c', d', e', f', g', h') => ((a + a') % n64, (b + b') % n64, (c + c') % n64, (d + d') % n64, (e + e') % n64, (f + f') % n64, (g + g') % n64, (h + h') % n64)
theorem prs_wn {l : List UInt8} {v : Nat → Int} {s : S8} (h : Wn8 v s) : Wn8 (prs v (bt l)) (prsN l s) := by
  have h2 := rnds_wn (l := l) h 80 (Nat.le_refl _)
  unfold prsN
  generalize rndsN (schN (bN l) 80) s 80 = s2 at *
  obtain ⟨a, b, c, d, e, f, g, h'⟩ := s
  obtain ⟨a2, b2, c2, d2, e2, f2, g2, k2⟩ := s2
  obtain ⟨h0, h1, h2', h3, h4, h5, h6, h7⟩ := h
  obtain ⟨k0, k1, k2', k3, k4, k5, k6, k7⟩ := h2
  exact ⟨h0.ad k0, h1.ad k1, h2'.ad k2', h3.ad k3, h4.ad k4, h5.ad k5, h6.ad k6, h7.ad k7⟩
def H0N : S8 := (7640891576956012808, 13503953896175478587, 4354685564936845355, 11912009170470909681, 5840696475078001361, 11170449401992604703, 2270897969802886507, 6620516959819538809)
theorem H0_wn : Wn8 hf H0N := by refine ⟨⟨?_, ?_⟩, ⟨?_, ?_⟩, ⟨?_, ?_⟩, ⟨?_, ?_⟩, ⟨?_, ?_⟩, ⟨?_, ?_⟩, ⟨?_, ?_⟩, ⟨?_, ?_⟩⟩ <;> decide +kernel
def HsN (P : List UInt8) : Nat → S8
  | 0 => H0N
  | j + 1 => prsN (P.drop (128 * j)) (HsN P j)
theorem Hs_wn (P : List UInt8) : ∀ j, Wn8 (Hs P j) (HsN P j)
  | 0 => H0_wn
  | j + 1 => prs_wn (Hs_wn P j)
/-- eight words as a number of 64 bytes, the first byte lowest -/
def wle (a : Nat) : Nat := a / 2 ^ 56 % 256 + 256 * (a / 2 ^ 48 % 256 + 256 * (a / 2 ^ 40 % 256 + 256 * (a / 2 ^ 32 % 256 + 256 * (a / 2 ^ 24 % 256 + 256 * (a / 2 ^ 16 % 256 + 256 * (a / 2 ^ 8 % 256 + 256 * (a % 256)))))))
def outN : S8 → Nat
  | (a, b, c, d, e, f, g, h) => wle a + 256 ^ (8 * 1) * wle b + 256 ^ (8 * 2) * wle c + 256 ^ (8 * 3) * wle d + 256 ^ (8 * 4) * wle e + 256 ^ (8 * 5) * wle f + 256 ^ (8 * 6) * wle g + 256 ^ (8 * 7) * wle h
def shaN (F : List UInt8) : Nat := outN (HsN (pad F) (nb F.length))
theorem le_append : ∀ l m : List UInt8, le (l ++ m) = le l + 256 ^ l.length * le m
  | [], m => by simp [le]
  | x :: r, m => by
    show x.toNat + 256 * le (r ++ m) = x.toNat + 256 * le r + _
    rw [le_append r m, List.length_cons, Nat.pow_succ, Nat.mul_add, ← Nat.mul_assoc, Nat.mul_comm 256 (256 ^ r.length), Nat.add_assoc]
theorem bo_wn {H : Nat → Int} {a i : Nat} (h : Wn (H i) a) (k : Nat) (hk : k < 8) : (bo H (8 * i + k)).toNat = a / 2 ^ (8 * (7 - k)) % 256 := by
  have e := bo_ob H (8 * i + k)
  have h2 := (h.sr (8 * (7 - k))).1
  unfold ob at e
  rw [show (8 * i + k) / 8 = i by omega, show (8 * i + k) % 8 = k by omega, h2] at e
  generalize a / 2 ^ (8 * (7 - k)) = z at *
  unfold w8 at e
  rw [IntKind.wrap_u8] at e
  omega
theorem le_wb {H : Nat → Int} {a i : Nat} (h : Wn (H i) a) : le (wb H (8 * (i + 1))) = le (wb H (8 * i)) + 256 ^ (8 * i) * wle a := by
  rw [← wb_step]
  simp only [List.append_assoc, List.cons_append, List.nil_append]
  rw [le_append, wb_length]
  congr 2
  unfold wle
  simp only [le]
  rw [bo_wn h 0 (by decide), bo_wn h 1 (by decide), bo_wn h 2 (by decide), bo_wn h 3 (by decide), bo_wn h 4 (by decide), bo_wn h 5 (by decide), bo_wn h 6 (by decide), bo_wn h 7 (by decide)]
  simp only [Nat.mul_zero, Nat.add_zero, Nat.sub_zero, Nat.reduceMul, Nat.reduceSub, Nat.pow_zero, Nat.div_one]
/-- the sum by numbers -/
theorem hs_sha (F : List UInt8) : hs F = shaN F := by
  have h := Hs_wn (pad F) (nb F.length)
  unfold hs smb shaN
  generalize HsN (pad F) (nb F.length) = s at *
  generalize Hs (pad F) (nb F.length) = H at *
  obtain ⟨a, b, c, d, e, f, g, k⟩ := s
  obtain ⟨h0, h1, h2, h3, h4, h5, h6, h7⟩ := h
  have z : le (wb H (8 * 0)) = 0 := rfl
  show le (wb H (8 * (7 + 1))) = _
  rw [le_wb h7, le_wb h6, le_wb h5, le_wb h4, le_wb h3, le_wb h2, le_wb h1, le_wb h0, z]
  show _ = wle a + 256 ^ (8 * 1) * wle b + 256 ^ (8 * 2) * wle c + 256 ^ (8 * 3) * wle d + 256 ^ (8 * 4) * wle e + 256 ^ (8 * 5) * wle f + 256 ^ (8 * 6) * wle g + 256 ^ (8 * 7) * wle k
  rw [Nat.mul_zero, Nat.pow_zero, Nat.one_mul, Nat.zero_add]
end Go.Proofs.YtefpoollmbmkfaaDoor

namespace Go.Proofs.YtefpoollmbmkfaaDoor
open Sc (LL clampF)
theorem pt_lit {s : Q4} {a : Pr} {x y : Nat} (h : RQ4 s a) (ex : x * s.2.2.1 % PP = s.1) (ey : y * s.2.2.1 % PP = s.2.1) : a = (fp x, fp y) := by
  obtain ⟨hz, hx, hy, _⟩ := h.rc
  rw [← ex, fp_mod, fp_mul] at hx
  rw [← ey, fp_mod, fp_mul] at hy
  have hi := finv_mul hz
  have e1 : a.1 = fp x := by grind
  have e2 : a.2 = fp y := by grind
  exact Prod.ext e1 e2
theorem enc_lit {x y : Nat} (hx : x < PP) (hy : y < PP) : enc (fp x, fp y) = y + 2 ^ 255 * (x % 2) := by
  show (fp y).val + 2 ^ 255 * ((fp x).val % 2) = _
  rw [fp_val, fp_val, Nat.mod_eq_of_lt hx, Nat.mod_eq_of_lt hy]
theorem hs_lit {F : List UInt8} {h : Nat} (e : shaN F = h) : hs F = h := (hs_sha F).trans e
set_option maxRecDepth 100000
end Go.Proofs.YtefpoollmbmkfaaDoor
