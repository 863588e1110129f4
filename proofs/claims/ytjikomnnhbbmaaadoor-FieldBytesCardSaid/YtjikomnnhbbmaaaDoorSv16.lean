/- Sixteen parts of whatever size as one number; what is beyond 2^256 comes back 38 times. No conditions. -/
import Derived.Test.YtjikomnnhbbmaaaDoorLim16
import Derived.Test.YtjikomnnhbbmaaaDoorWval
import Derived.Laws.Shifts
namespace Go.Proofs.YtjikomnnhbbmaaaDoor
set_option linter.unusedSimpArgs false
set_option linter.unusedVariables false
open Go.RowKit

def mixF (k : Nat) (f g : Nat → Int) : Nat → Int := fun j => if j < k then f j else g j
theorem mixF_at (k : Nat) (f g : Nat → Int) : mixF k f g k = g k := by simp [mixF]
theorem mixF_set (kd : IntKind) (n k : Nat) (f g : Nat → Int) : (arrK kd n (mixF k f g)).setIfInBounds k (.int kd (f k)) = arrK kd n (mixF (k + 1) f g) := by
  rw [arrK_set]
  apply arrK_congr
  intro j _
  unfold upd mixF
  by_cases h1 : j = k
  · subst h1; rw [if_pos rfl, if_pos (by omega)]
  · rw [if_neg h1]
    by_cases h2 : j < k
    · rw [if_pos h2, if_pos (by omega)]
    · rw [if_neg h2, if_neg (by omega)]
theorem mixF_all (kd : IntKind) (n : Nat) (f g : Nat → Int) : arrK kd n (mixF n f g) = arrK kd n f := arrK_congr _ _ _ _ (fun i hi => by unfold mixF; rw [if_pos hi])
theorem mixF_zero (f g : Nat → Int) : mixF 0 f g = g := by funext j; simp [mixF]
theorem and_65535 (x : Int) (h0 : 0 ≤ x) (h1 : x ≤ 9223372036854775807) : bits .and .i64 x 65535 = x % 65536 := by
  have h := bits_mask .i64 63 (by decide) (fun n a b => by rw [IntKind.wrap_i64]; omega) 16 (by omega) x h0 (by omega)
  have e1 : (2 : Int) ^ 16 - 1 = 65535 := by decide
  have e2 : (2 : Int) ^ 16 = 65536 := by decide
  rw [e1, e2] at h; exact h

def sval (f : Nat → Int) : Nat → Nat
  | 0 => 0
  | n + 1 => sval f n + (f n).toNat * 2 ^ (16 * n)
theorem sval_congr (f g : Nat → Int) : ∀ n, (∀ j, j < n → f j = g j) → sval f n = sval g n
  | 0, _ => rfl
  | n + 1, h => by
    show sval f n + _ = sval g n + _
    rw [sval_congr f g n (fun j hj => h j (by omega)), h n (by omega)]
theorem sval_upd (f : Nat → Int) (j : Nat) (v : Int) : ∀ n, j < n → sval (upd f j v) n + (f j).toNat * 2 ^ (16 * j) = sval f n + v.toNat * 2 ^ (16 * j)
  | 0, h => by omega
  | n + 1, h => by
    show sval (upd f j v) n + (upd f j v n).toNat * 2 ^ (16 * n) + _ = sval f n + (f n).toNat * 2 ^ (16 * n) + _
    by_cases hj : j = n
    · subst hj
      rw [sval_congr (upd f j v) f j (fun i hi => by unfold upd; rw [if_neg (by omega)])]
      simp only [upd, if_true]
      omega
    · have ih := sval_upd f j v n (by omega)
      have e : upd f j v n = f n := by unfold upd; rw [if_neg (fun h => hj h.symm)]
      rw [e]; omega
theorem sval_l16 (V : Nat) : ∀ n, sval (l16 V) n = V % 2 ^ (16 * n)
  | 0 => by simp [sval, Nat.mod_one]
  | n + 1 => by
    show sval (l16 V) n + (l16 V n).toNat * 2 ^ (16 * n) = _
    rw [sval_l16 V n, mod16_succ]
    unfold l16
    rw [Int.toNat_natCast]
theorem sval_zero : ∀ n, sval (fun _ => 0) n = 0
  | 0 => rfl
  | n + 1 => by show sval (fun _ => 0) n + (0 : Int).toNat * _ = 0; rw [sval_zero n]; simp
theorem sval_add (f g : Nat → Int) (hf : ∀ j, 0 ≤ f j) (hg : ∀ j, 0 ≤ g j) : ∀ n, sval (fun j => f j + g j) n = sval f n + sval g n
  | 0 => rfl
  | n + 1 => by
    show sval _ n + (f n + g n).toNat * _ = sval f n + (f n).toNat * _ + (sval g n + (g n).toNat * _)
    rw [sval_add f g hf hg n, Int.toNat_add (hf n) (hg n), Nat.add_mul]; omega
theorem sval_more (f : Nat → Int) (m : Nat) : ∀ n, m ≤ n → ∃ r, sval f n = sval f m + 2 ^ (16 * m) * r
  | 0, h => ⟨0, by rw [Nat.le_zero.1 h]; rfl⟩
  | n + 1, h => by
    by_cases e : m = n + 1
    · subst e; exact ⟨0, by simp⟩
    · obtain ⟨r, hr⟩ := sval_more f m n (by omega)
      obtain ⟨d, hd⟩ : ∃ d, 16 * n = 16 * m + d := ⟨16 * n - 16 * m, by omega⟩
      refine ⟨r + (f n).toNat * 2 ^ d, ?_⟩
      show sval f n + (f n).toNat * 2 ^ (16 * n) = _
      rw [hr, hd, Nat.pow_add, Nat.mul_add, Nat.mul_left_comm]; omega
/-- what is carried into part k -/
def ovr (f : Nat → Int) (k : Nat) : Nat := sval f k / 2 ^ (16 * k)
theorem ovr_zero (f : Nat → Int) : ovr f 0 = 0 := by simp [ovr, sval]
theorem ovr_step (f : Nat → Int) (k : Nat) : ovr f (k + 1) = ((f k).toNat + ovr f k) / 65536 := by
  unfold ovr
  show (sval f k + (f k).toNat * 2 ^ (16 * k)) / _ = _
  rw [pow16_succ, ← Nat.div_div_eq_div_mul, Nat.add_mul_div_right _ _ (Nat.two_pow_pos _), Nat.add_comm]
theorem l16_step (f : Nat → Int) (n k : Nat) (hk : k < n) : l16 (sval f n) k = (((f k).toNat + ovr f k) % 65536 : Nat) := by
  obtain ⟨r, hr⟩ := sval_more f (k + 1) n hk
  unfold l16 ovr
  rw [hr]
  show (((sval f k + (f k).toNat * 2 ^ (16 * k) + 2 ^ (16 * (k + 1)) * r) / 2 ^ (16 * k) % 65536 : Nat) : Int) = _
  rw [pow16_succ, Nat.mul_assoc, Nat.add_mul_div_left _ _ (Nat.two_pow_pos _), Nat.add_mul_div_right _ _ (Nat.two_pow_pos _), Nat.add_mul_mod_self_left, Nat.add_comm]
theorem ovr_le (f : Nat → Int) (M : Nat) (h : ∀ j, f j ≤ (M : Int)) : ∀ k, ovr f k ≤ M
  | 0 => by rw [ovr_zero]; omega
  | k + 1 => by
    have := ovr_le f M h k
    have := h k
    rw [ovr_step]; omega
/-- what comes of a number when what is beyond 2^256 comes back 38 times -/
def cr (V : Nat) : Nat := V % P256 + 38 * (V / P256)
def nxt (f : Nat → Int) : Nat → Int := upd (l16 (sval f 16)) 0 (l16 (sval f 16) 0 + 38 * (ovr f 16 : Int))
def nxts (f : Nat → Int) : Nat → Nat → Int
  | 0 => f
  | t + 1 => nxt (nxts f t)
def okF (f : Nat → Int) : Prop := ∀ j, 0 ≤ f j ∧ f j ≤ 1125899906842624
theorem nxt_ok (f : Nat → Int) (h : okF f) : okF (nxt f) := fun j => by
  have h0 := ovr_le f 1125899906842624 (fun j => (h j).2) 15
  have h1 : ovr f 16 = ((f 15).toNat + ovr f 15) / 65536 := ovr_step f 15
  have h2 := (h 15).2
  have h3 := l16_ok (sval f 16)
  unfold nxt upd
  split
  · have := h3 0; omega
  · have := h3 j; omega
theorem nxts_ok (f : Nat → Int) (h : okF f) : ∀ t, okF (nxts f t)
  | 0 => h
  | t + 1 => nxt_ok _ (nxts_ok f h t)
theorem sval_nxt (f : Nat → Int) : sval (nxt f) 16 = cr (sval f 16) := by
  have h := sval_upd (l16 (sval f 16)) 0 (l16 (sval f 16) 0 + 38 * (ovr f 16 : Int)) 16 (by omega)
  have h3 := l16_ok (sval f 16) 0
  rw [sval_l16, Int.toNat_add h3.1 (by omega), Nat.mul_zero, Nat.pow_zero, Nat.mul_one, Nat.mul_one] at h
  unfold cr
  have e : (38 * (ovr f 16 : Int)).toNat = 38 * ovr f 16 := by omega
  rw [e] at h
  unfold nxt
  unfold ovr at *
  rw [show (2 : Nat) ^ (16 * 16) = P256 by decide] at *
  omega
theorem cr_lt (V : Nat) (h : V < P256 * 4503599627370496) : cr V < P256 + 38 * 4503599627370496 := by
  have h1 : V / P256 < 4503599627370496 := Nat.div_lt_of_lt_mul h
  have h2 : V % P256 < P256 := Nat.mod_lt _ (by decide)
  unfold cr; omega
theorem cr_cr_lt (V : Nat) (h : V < P256 * 4503599627370496) : cr (cr V) < P256 := by
  have h1 := cr_lt V h
  generalize cr V = W at *
  unfold cr
  by_cases hW : W < P256
  · rw [Nat.mod_eq_of_lt hW, Nat.div_eq_of_lt hW]; exact hW
  · have e1 : W % P256 = W - P256 := by rw [Nat.mod_eq_sub_mod (by omega), Nat.mod_eq_of_lt (by unfold P256 at *; omega)]
    have e2 : W / P256 = 1 := Nat.div_eq_of_lt_le (by omega) (by unfold P256 at *; omega)
    rw [e1, e2]; unfold P256 at *; omega
theorem sval_lt (f : Nat → Int) (h : okF f) : ∀ n, sval f n < 2 ^ (16 * n) * 4503599627370496
  | 0 => by simp [sval]
  | n + 1 => by
    have ih := sval_lt f h n
    have h1 := (h n)
    rw [pow16_succ]
    show sval f n + (f n).toNat * 2 ^ (16 * n) < _
    have : (f n).toNat * 2 ^ (16 * n) ≤ 1125899906842624 * 2 ^ (16 * n) := Nat.mul_le_mul_right _ (by omega)
    generalize 2 ^ (16 * n) = W at *
    omega
theorem nxts3 (f : Nat → Int) (h : okF f) : arrK .i64 16 (nxts f 3) = arrK .i64 16 (l16 (cr (cr (sval f 16)))) := by
  have hV := sval_lt f h 16
  rw [show (2 : Nat) ^ (16 * 16) = P256 by decide] at hV
  have hW := cr_cr_lt _ hV
  have e : sval (nxts f 2) 16 = cr (cr (sval f 16)) := by
    show sval (nxt (nxt f)) 16 = _
    rw [sval_nxt, sval_nxt]
  show arrK .i64 16 (nxt (nxts f 2)) = _
  unfold nxt
  have e0 : ovr (nxts f 2) 16 = 0 := by
    unfold ovr; rw [e, show (2 : Nat) ^ (16 * 16) = P256 by decide, Nat.div_eq_of_lt hW]
  rw [e0, e]
  apply arrK_congr
  intro j _
  unfold upd
  split
  · rename_i hj; subst hj; simp
  · rfl
/-- one part of the carrying -/
theorem car_parts (f : Nat → Int) (h : okF f) (k : Nat) (hk : k < 16) : bits .and .i64 (f k + (ovr f k : Int)) 65535 = l16 (sval f 16) k ∧ (f k + (ovr f k : Int)) / 65536 = (ovr f (k + 1) : Int) := by
  have h1 := h k
  have h2 := ovr_le f 1125899906842624 (fun j => (h j).2) k
  rw [and_65535 _ (by omega) (by omega), l16_step f 16 k hk, ovr_step]
  omega
end Go.Proofs.YtjikomnnhbbmaaaDoor
