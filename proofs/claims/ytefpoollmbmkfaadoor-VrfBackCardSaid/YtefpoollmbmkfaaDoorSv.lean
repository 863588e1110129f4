/- The sum of 64 bytes, reckoned by numbers: for the kernel. No conditions. -/
import Derived.Test.YtefpoollmbmkfaaDoorSi
import Derived.Laws.BitsLemmas
set_option linter.unusedSimpArgs false
set_option linter.unusedVariables false
namespace Go.Proofs.YtefpoollmbmkfaaDoor
open Go.RowKit
def n64 : Nat := 18446744073709551616
theorem j6d (n : Int) (h0 : 0 ≤ n) (h1 : n < 2 ^ 64) : IntKind.u64.wrap n = n := by rw [IntKind.wrap_u64]; omega
theorem q1t (k : IntKind) (j : Nat) (hj : j ≤ k.bits) (hk : ∀ n : Int, 0 ≤ n → n < 2 ^ j → k.wrap n = n) (a b : Nat) (ha : a < 2 ^ j) (hb : b < 2 ^ j) : bits .xor k a b = ((a ^^^ b : Nat) : Int) := by
  have hp : 2 ^ j ≤ 2 ^ k.bits := Nat.pow_le_pow_right (by decide) hj
  have ha' : a % 2 ^ k.bits = a := Nat.mod_eq_of_lt (Nat.lt_of_lt_of_le ha hp)
  have hb' : b % 2 ^ k.bits = b := Nat.mod_eq_of_lt (Nat.lt_of_lt_of_le hb hp)
  simp only [bits, BitVec.ofInt_natCast, BitVec.toNat_xor, BitVec.toNat_ofNat, ha', hb']
  exact hk _ (Int.natCast_nonneg _) (by exact_mod_cast Nat.xor_lt_two_pow ha hb)
def Wn (x : Int) (a : Nat) : Prop := x = (a : Int) ∧ a < 2 ^ 64
section
variable {x y : Int} {a b : Nat}
theorem Wn.xo (h : Wn x a) (k : Wn y b) : Wn (xo x y) (a ^^^ b) := ⟨by rw [h.1, k.1]; exact q1t .u64 64 (by decide) j6d a b h.2 k.2, Nat.xor_lt_two_pow h.2 k.2⟩
theorem Wn.an (h : Wn x a) (k : Wn y b) : Wn (an x y) (a &&& b) := ⟨by rw [h.1, k.1]; exact (bits_nat .u64 64 (by decide) j6d a b h.2 k.2).1, Nat.and_lt_two_pow _ k.2⟩
theorem Wn.oo (h : Wn x a) (k : Wn y b) : Wn (oo x y) (a ||| b) := ⟨by rw [h.1, k.1]; exact (bits_nat .u64 64 (by decide) j6d a b h.2 k.2).2, Nat.or_lt_two_pow h.2 k.2⟩
theorem Wn.nt (h : Wn x a) : Wn (nt x) (18446744073709551615 ^^^ a) := ⟨by rw [h.1]; exact q1t .u64 64 (by decide) j6d _ a (by decide) h.2, Nat.xor_lt_two_pow (by decide) h.2⟩
theorem Wn.ad (h : Wn x a) (k : Wn y b) : Wn (ad x y) ((a + b) % n64) := ⟨by rw [h.1, k.1]; show IntKind.wrap .u64 ((a : Int) + b) = _; unfold n64; rw [IntKind.wrap_u64]; omega, Nat.mod_lt _ (by decide)⟩
theorem Wn.sl (h : Wn x a) (n : Nat) : Wn (sl x n) (a * 2 ^ n % n64) := ⟨by
  rw [h.1]; show IntKind.wrap .u64 ((a : Int) * 2 ^ n) = _; unfold n64
  rw [IntKind.wrap_u64, Int.natCast_emod, Int.natCast_mul, Int.natCast_pow]; rfl, Nat.mod_lt _ (by decide)⟩
theorem Wn.sr (h : Wn x a) (n : Nat) : Wn (sr x n) (a / 2 ^ n) := ⟨by
  rw [h.1]; show (a : Int) / 2 ^ n = _
  rw [Int.natCast_ediv, Int.natCast_pow]; rfl, Nat.lt_of_le_of_lt (Nat.div_le_self _ _) h.2⟩
end
def rtN (a n : Nat) : Nat := a / 2 ^ n ||| a * 2 ^ (64 - n) % n64
theorem Wn.rt {x : Int} {a : Nat} (h : Wn x a) (n : Nat) : Wn (rt x n) (rtN a n) := (h.sr n).oo (h.sl (64 - n))
/-! ### The words of a block -/
def g1y (b : Nat → Nat) (i : Nat) : Nat → Nat
  | 0 => 0
  | k + 1 => g1y b i k * 2 ^ 8 % n64 ||| b (8 * i + k)
def bN (l : List UInt8) (j : Nat) : Nat := (l.getD j 0).toNat
theorem g6d (l : List UInt8) (j : Nat) : Wn (bt l j) (bN l j) := ⟨rfl, Nat.lt_trans (l.getD j 0).toNat_lt (by decide)⟩
theorem j1o (l : List UInt8) (i : Nat) : ∀ k, Wn (wrd (bt l) i k) (g1y (bN l) i k)
  | 0 => ⟨rfl, Nat.two_pow_pos 64⟩
  | k + 1 => ((j1o l i k).sl 8).oo (g6d l _)
def sgN (l : List Nat) : Nat :=
  let p := l.getD 14 0
  let q := l.getD 1 0
  (((l.getD 15 0 + (rtN p 1 ^^^ rtN p 8 ^^^ p / 2 ^ 7)) % n64 + l.getD 6 0) % n64 + (rtN q 19 ^^^ rtN q 61 ^^^ q / 2 ^ 6)) % n64
def q9p (b : Nat → Nat) : Nat → List Nat
  | 0 => []
  | i + 1 => (if i < 16 then g1y b i 8 else sgN (q9p b i)) :: q9p b i
theorem j1p (l : List UInt8) : ∀ i, ∀ j, j < i → Wn (z6 (bt l) i j) ((q9p (bN l) i).getD (i - 1 - j) 0)
  | 0, _, h => by omega
  | i + 1, j, h => by
    have ih := j1p l i
    show Wn (B8 (z6 (bt l) i) i (if i < 16 then wrd (bt l) i 8 else sg (z6 (bt l) i) i) j) _
    unfold B8 q9p
    by_cases e : j = i
    · subst e
      rw [if_pos rfl, show j + 1 - 1 - j = 0 by omega, List.getD_cons_zero]
      by_cases h16 : j < 16
      · rw [if_pos h16, if_pos h16]; exact j1o l j 8
      · rw [if_neg h16, if_neg h16]
        have g : ∀ m, m < 16 → Wn (z6 (bt l) j (j - (m + 1))) ((q9p (bN l) j).getD m 0) := fun m hm => by
          have := ih (j - (m + 1)) (by omega)
          rwa [show j - 1 - (j - (m + 1)) = m by omega] at this
        have g14 := g 14 (by decide)
        have g1 := g 1 (by decide)
        exact (((g 15 (by decide)).ad (((g14.rt 1).xo (g14.rt 8)).xo (g14.sr 7))).ad (g 6 (by decide))).ad (((g1.rt 19).xo (g1.rt 61)).xo (g1.sr 6))
    · rw [if_neg e, show i + 1 - 1 - j = (i - 1 - j) + 1 by omega, List.getD_cons_succ]
      exact ih j (by omega)
/-! ### The rounds -/
abbrev S8 := Nat × Nat × Nat × Nat × Nat × Nat × Nat × Nat
def g6e (k w : Nat) : S8 → S8
  | (a, b, c, d, e, f, g, h) =>
    let t := ((((h + (rtN e 14 ^^^ rtN e 18 ^^^ rtN e 41)) % n64 + ((e &&& f) ^^^ ((18446744073709551615 ^^^ e) &&& g))) % n64 + k) % n64 + w) % n64
    let u := ((rtN a 28 ^^^ rtN a 34 ^^^ rtN a 39) + ((a &&& b) ^^^ (a &&& c) ^^^ (b &&& c))) % n64
    ((t + u) % n64, a, b, c, (d + t) % n64, e, f, g)
def Wn8 (v : Nat → Int) : S8 → Prop
  | (a, b, c, d, e, f, g, h) => Wn (v 0) a ∧ Wn (v 1) b ∧ Wn (v 2) c ∧ Wn (v 3) d ∧ Wn (v 4) e ∧ Wn (v 5) f ∧ Wn (v 6) g ∧ Wn (v 7) h
theorem g1z {k w v : Nat → Int} {i kn wn : Nat} {s : S8} (hk : Wn (k i) kn) (hw : Wn (w i) wn) (h : Wn8 v s) : Wn8 (rnd k w i v) (g6e kn wn s) := by
  obtain ⟨a, b, c, d, e, f, g, h'⟩ := s
  obtain ⟨h0, h1, h2, h3, h4, h5, h6, h7⟩ := h
  have hT : Wn (rT k w i v) _ := (((h7.ad (((h4.rt 14).xo (h4.rt 18)).xo (h4.rt 41))).ad ((h4.an h5).xo (h4.nt.an h6))).ad hk).ad hw
  have hU : Wn (rU v) _ := (((h0.rt 28).xo (h0.rt 34)).xo (h0.rt 39)).ad (((h0.an h1).xo (h0.an h2)).xo (h1.an h2))
  exact ⟨hT.ad hU, h0, h1, h2, h3.ad hT, h4, h5, h6⟩
def kkN (i : Nat) : Nat := (kk.getD i 0).toNat
theorem g6f (i : Nat) (h : i < 80) : Wn (kf i) (kkN i) := by
  have key : ((List.range 80).all fun i => decide (kf i = (kkN i : Int)) && decide (kkN i < 2 ^ 64)) = true := by decide +kernel
  have := List.all_eq_true.1 key i (List.mem_range.2 h)
  simp only [Bool.and_eq_true, decide_eq_true_eq] at this
  exact this
def y4b (W : List Nat) (s : S8) : Nat → S8
  | 0 => s
  | i + 1 => g6e (kkN i) (W.getD (79 - i) 0) (y4b W s i)
theorem y4c {l : List UInt8} {v : Nat → Int} {s : S8} (h : Wn8 v s) : ∀ i, i ≤ 80 → Wn8 (x4 kf (z6 (bt l) 80) v i) (y4b (q9p (bN l) 80) s i)
  | 0, _ => h
  | i + 1, hi => g1z (g6f i (by omega)) (by have := j1p l 80 i (by omega); rwa [show 80 - 1 - i = 79 - i by omega] at this) (y4c h i (by omega))
def g2a (l : List UInt8) (s : S8) : S8 :=
  match s, y4b (q9p (bN l) 80) s 80 with
  | (a, b, c, d, e, f, g, h), (a', b', c', d', e', f', g', h') => ((a + a') % n64, (b + b') % n64, (c + c') % n64, (d + d') % n64, (e + e') % n64, (f + f') % n64, (g + g') % n64, (h + h') % n64)
theorem g2b {l : List UInt8} {v : Nat → Int} {s : S8} (h : Wn8 v s) : Wn8 (prs v (bt l)) (g2a l s) := by
  have h2 := y4c (l := l) h 80 (Nat.le_refl _)
  unfold g2a
  generalize y4b (q9p (bN l) 80) s 80 = s2 at *
  obtain ⟨a, b, c, d, e, f, g, h'⟩ := s
  obtain ⟨a2, b2, c2, d2, e2, f2, g2, k2⟩ := s2
  obtain ⟨h0, h1, h2', h3, h4, h5, h6, h7⟩ := h
  obtain ⟨k0, k1, k2', k3, k4, k5, k6, k7⟩ := h2
  exact ⟨h0.ad k0, h1.ad k1, h2'.ad k2', h3.ad k3, h4.ad k4, h5.ad k5, h6.ad k6, h7.ad k7⟩
def H0N : S8 := (7640891576956012808, 13503953896175478587, 4354685564936845355, 11912009170470909681, 5840696475078001361, 11170449401992604703, 2270897969802886507, 6620516959819538809)
theorem g6g : Wn8 hf H0N := by refine ⟨⟨?_, ?_⟩, ⟨?_, ?_⟩, ⟨?_, ?_⟩, ⟨?_, ?_⟩, ⟨?_, ?_⟩, ⟨?_, ?_⟩, ⟨?_, ?_⟩, ⟨?_, ?_⟩⟩ <;> decide +kernel
def HsN (P : List UInt8) : Nat → S8
  | 0 => H0N
  | j + 1 => g2a (P.drop (128 * j)) (HsN P j)
theorem j8l (P : List UInt8) : ∀ j, Wn8 (Hs P j) (HsN P j)
  | 0 => g6g
  | j + 1 => g2b (j8l P j)
def wle (a : Nat) : Nat := a / 2 ^ 56 % 256 + 256 * (a / 2 ^ 48 % 256 + 256 * (a / 2 ^ 40 % 256 + 256 * (a / 2 ^ 32 % 256 + 256 * (a / 2 ^ 24 % 256 + 256 * (a / 2 ^ 16 % 256 + 256 * (a / 2 ^ 8 % 256 + 256 * (a % 256)))))))
def g8t : S8 → Nat
  | (a, b, c, d, e, f, g, h) => wle a + 256 ^ (8 * 1) * wle b + 256 ^ (8 * 2) * wle c + 256 ^ (8 * 3) * wle d + 256 ^ (8 * 4) * wle e + 256 ^ (8 * 5) * wle f + 256 ^ (8 * 6) * wle g + 256 ^ (8 * 7) * wle h
def g2c (F : List UInt8) : Nat := g8t (HsN (I5 F) (nb F.length))
theorem q6h : ∀ l m : List UInt8, le (l ++ m) = le l + 256 ^ l.length * le m
  | [], m => by simp [le]
  | x :: r, m => by
    show x.toNat + 256 * le (r ++ m) = x.toNat + 256 * le r + _
    rw [q6h r m, List.length_cons, Nat.pow_succ, Nat.mul_add, ← Nat.mul_assoc, Nat.mul_comm 256 (256 ^ r.length), Nat.add_assoc]
theorem q3c {H : Nat → Int} {a i : Nat} (h : Wn (H i) a) (k : Nat) (hk : k < 8) : (bo H (8 * i + k)).toNat = a / 2 ^ (8 * (7 - k)) % 256 := by
  have e := j8a H (8 * i + k)
  have h2 := (h.sr (8 * (7 - k))).1
  unfold ob at e
  rw [show (8 * i + k) / 8 = i by omega, show (8 * i + k) % 8 = k by omega, h2] at e
  generalize a / 2 ^ (8 * (7 - k)) = z at *
  unfold w8 at e
  rw [IntKind.wrap_u8] at e
  omega
theorem q3d {H : Nat → Int} {a i : Nat} (h : Wn (H i) a) : le (wb H (8 * (i + 1))) = le (wb H (8 * i)) + 256 ^ (8 * i) * wle a := by
  rw [← j5m]
  simp only [List.append_assoc, List.cons_append, List.nil_append]
  rw [q6h, q6d]
  congr 2
  unfold wle
  simp only [le]
  rw [q3c h 0 (by decide), q3c h 1 (by decide), q3c h 2 (by decide), q3c h 3 (by decide), q3c h 4 (by decide), q3c h 5 (by decide), q3c h 6 (by decide), q3c h 7 (by decide)]
  simp only [Nat.mul_zero, Nat.add_zero, Nat.sub_zero, Nat.reduceMul, Nat.reduceSub, Nat.pow_zero, Nat.div_one]
theorem g2d (F : List UInt8) : hs F = g2c F := by
  have h := j8l (I5 F) (nb F.length)
  unfold hs smb g2c
  generalize HsN (I5 F) (nb F.length) = s at *
  generalize Hs (I5 F) (nb F.length) = H at *
  obtain ⟨a, b, c, d, e, f, g, k⟩ := s
  obtain ⟨h0, h1, h2, h3, h4, h5, h6, h7⟩ := h
  have z : le (wb H (8 * 0)) = 0 := rfl
  show le (wb H (8 * (7 + 1))) = _
  rw [q3d h7, q3d h6, q3d h5, q3d h4, q3d h3, q3d h2, q3d h1, q3d h0, z]
  show _ = wle a + 256 ^ (8 * 1) * wle b + 256 ^ (8 * 2) * wle c + 256 ^ (8 * 3) * wle d + 256 ^ (8 * 4) * wle e + 256 ^ (8 * 5) * wle f + 256 ^ (8 * 6) * wle g + 256 ^ (8 * 7) * wle k
  rw [Nat.mul_zero, Nat.pow_zero, Nat.one_mul, Nat.zero_add]
end Go.Proofs.YtefpoollmbmkfaaDoor
