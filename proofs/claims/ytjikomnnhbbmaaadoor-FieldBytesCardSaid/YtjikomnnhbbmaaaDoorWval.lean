/- Words of 64 bits as one number: what a store does to it. -/
import Derived.Test.YtjikomnnhbbmaaaDoorArr
namespace Go.Proofs.YtjikomnnhbbmaaaDoor
set_option linter.unusedSimpArgs false
set_option linter.unusedVariables false
open Go.RowKit
/-- the first n words as one number -/
def wval (ws : Nat → Int) : Nat → Nat
  | 0 => 0
  | n + 1 => wval ws n + (ws n).toNat * 2 ^ (64 * n)
theorem wval_lt (ws : Nat → Int) : ∀ n, (∀ j, j < n → u64ok (ws j)) → wval ws n < 2 ^ (64 * n)
  | 0, _ => by simp [wval]
  | n + 1, h => by
    have ih := wval_lt ws n (fun j hj => h j (by omega))
    have h1 := h n (by omega)
    have e : (2 : Nat) ^ (64 * (n + 1)) = 18446744073709551616 * 2 ^ (64 * n) := by rw [Nat.mul_add, Nat.pow_add, Nat.mul_comm]
    unfold u64ok at h1
    rw [e]
    show wval ws n + (ws n).toNat * 2 ^ (64 * n) < _
    have : (ws n).toNat * 2 ^ (64 * n) ≤ 18446744073709551615 * 2 ^ (64 * n) := Nat.mul_le_mul_right _ (by omega)
    omega
theorem wval_congr (f g : Nat → Int) : ∀ n, (∀ j, j < n → f j = g j) → wval f n = wval g n
  | 0, _ => rfl
  | n + 1, h => by
    show wval f n + _ = wval g n + _
    rw [wval_congr f g n (fun j hj => h j (by omega)), h n (by omega)]
theorem wval_upd (f : Nat → Int) (j : Nat) (v : Int) : ∀ n, j < n → wval (upd f j v) n + (f j).toNat * 2 ^ (64 * j) = wval f n + v.toNat * 2 ^ (64 * j)
  | 0, h => by omega
  | n + 1, h => by
    show wval (upd f j v) n + (upd f j v n).toNat * 2 ^ (64 * n) + _ = wval f n + (f n).toNat * 2 ^ (64 * n) + _
    by_cases hj : j = n
    · subst hj
      rw [wval_congr (upd f j v) f j (fun i hi => by unfold upd; rw [if_neg (by omega)])]
      simp only [upd, if_true]
      omega
    · have ih := wval_upd f j v n (by omega)
      have e : upd f j v n = f n := by unfold upd; rw [if_neg (fun h => hj h.symm)]
      rw [e]; omega
theorem upd_same (f : Nat → Int) (j : Nat) (v : Int) : upd f j v j = v := by simp [upd]
theorem upd_other (f : Nat → Int) (j i : Nat) (v : Int) (h : i ≠ j) : upd f j v i = f i := by simp [upd, h]
theorem wval_zero : ∀ n, wval (fun _ => 0) n = 0
  | 0 => rfl
  | n + 1 => by show wval (fun _ => 0) n + (0 : Int).toNat * _ = 0; rw [wval_zero n]; simp
theorem wval_lim (V : Nat) : ∀ n, wval (lim V) n = V % 2 ^ (64 * n)
  | 0 => by simp [wval, Nat.mod_one]
  | n + 1 => by
    show wval (lim V) n + (lim V n).toNat * 2 ^ (64 * n) = _
    rw [wval_lim V n, Nat.mul_add, Nat.pow_add, Nat.mod_mul]
    unfold lim
    rw [Int.toNat_natCast, Nat.mul_comm (2 ^ (64 * n))]
theorem wval_lim4 (V : Nat) (h : V < P256) : wval (lim V) 4 = V := by
  rw [wval_lim, Nat.mod_eq_of_lt]; exact h
theorem mod_step (V i : Nat) : V % 2 ^ (64 * (i + 1)) = V % 2 ^ (64 * i) + (lim V i).toNat * 2 ^ (64 * i) := by
  rw [← wval_lim, ← wval_lim]; rfl
theorem lim_wval (f : Nat → Int) : ∀ n j, j < n → (∀ i, i < n → u64ok (f i)) → lim (wval f n) j = f j
  | 0, j, h, _ => by omega
  | n + 1, j, h, hf => by
    have hl := wval_lt f n (fun i hi => hf i (by omega))
    have hn := hf n (by omega)
    unfold u64ok at hn
    have hq : wval f (n + 1) = wval f n + (f n).toNat * 2 ^ (64 * n) := rfl
    by_cases hj : j = n
    · subst hj
      unfold lim
      rw [hq, Nat.add_mul_div_right _ _ (Nat.two_pow_pos _), Nat.div_eq_of_lt hl, Nat.zero_add]
      omega
    · have ih := lim_wval f n j (by omega) (fun i hi => hf i (by omega))
      rw [← ih]
      unfold lim
      obtain ⟨d, hd⟩ : ∃ d, 64 * n = 64 * j + (64 + d) := ⟨64 * n - 64 * j - 64, by omega⟩
      rw [hq, hd, Nat.pow_add 2 (64 * j), Nat.mul_left_comm, Nat.add_mul_div_left _ _ (Nat.two_pow_pos _), Nat.pow_add 2 64 d, Nat.mul_left_comm]
      have e : (2 : Nat) ^ 64 = 18446744073709551616 := by decide
      rw [e, Nat.add_mul_mod_self_left]
end Go.Proofs.YtjikomnnhbbmaaaDoor
