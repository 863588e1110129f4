/- Numbers in parts of 16 bits: sums and differences part by part. No conditions. -/
import Derived.Test.YtjikomnnhbbmaaaDoorArr
namespace Go.Proofs.YtjikomnnhbbmaaaDoor
set_option linter.unusedSimpArgs false
set_option linter.unusedVariables false
open Go.RowKit

/-- part i of n, 16 bits each -/
def l16 (n i : Nat) : Int := ((n / 2 ^ (16 * i) % 65536 : Nat) : Int)
theorem l16_ok (n i : Nat) : 0 ≤ l16 n i ∧ l16 n i ≤ 65535 := by unfold l16; omega
def A16 (n : Nat) : Value := .agg (arrK .i64 16 (l16 n))
theorem pow16_succ (i : Nat) : (2 : Nat) ^ (16 * (i + 1)) = 2 ^ (16 * i) * 65536 := by rw [Nat.mul_add, Nat.pow_add]
theorem mod16_succ (X i : Nat) : X % 2 ^ (16 * (i + 1)) = X % 2 ^ (16 * i) + X / 2 ^ (16 * i) % 65536 * 2 ^ (16 * i) := by
  rw [pow16_succ, Nat.mod_mul, Nat.mul_comm (2 ^ (16 * i))]
/-- what is carried into part i of a sum -/
def car16 (X Y i : Nat) : Nat := (X % 2 ^ (16 * i) + Y % 2 ^ (16 * i)) / 2 ^ (16 * i)
theorem car16_zero (X Y : Nat) : car16 X Y 0 = 0 := by simp [car16, Nat.mod_one]
theorem car16_le (X Y i : Nat) : car16 X Y i ≤ 1 := by
  unfold car16
  have hp := Nat.two_pow_pos (16 * i)
  have h1 := Nat.mod_lt X hp
  have h2 := Nat.mod_lt Y hp
  have : (X % 2 ^ (16 * i) + Y % 2 ^ (16 * i)) / 2 ^ (16 * i) < 2 := by
    rw [Nat.div_lt_iff_lt_mul hp]; omega
  omega
theorem add16_step (X Y i : Nat) : l16 X i + l16 Y i + (car16 X Y i : Int) = l16 (X + Y) i + 65536 * (car16 X Y (i + 1) : Int) := by
  have hp := Nat.two_pow_pos (16 * i)
  have e1 : car16 X Y (i + 1) = (X / 2 ^ (16 * i) % 65536 + Y / 2 ^ (16 * i) % 65536 + car16 X Y i) / 65536 := by
    unfold car16
    rw [mod16_succ X i, mod16_succ Y i, pow16_succ, ← Nat.div_div_eq_div_mul]
    congr 1
    rw [show X % 2 ^ (16 * i) + X / 2 ^ (16 * i) % 65536 * 2 ^ (16 * i) + (Y % 2 ^ (16 * i) + Y / 2 ^ (16 * i) % 65536 * 2 ^ (16 * i)) = X % 2 ^ (16 * i) + Y % 2 ^ (16 * i) + (X / 2 ^ (16 * i) % 65536 + Y / 2 ^ (16 * i) % 65536) * 2 ^ (16 * i) by rw [Nat.add_mul]; omega]
    rw [Nat.add_mul_div_right _ _ hp]; omega
  have e2 : (X + Y) / 2 ^ (16 * i) = X / 2 ^ (16 * i) + Y / 2 ^ (16 * i) + car16 X Y i := by
    unfold car16
    have hx := Nat.div_add_mod X (2 ^ (16 * i))
    have hy := Nat.div_add_mod Y (2 ^ (16 * i))
    rw [show X + Y = (X % 2 ^ (16 * i) + Y % 2 ^ (16 * i)) + 2 ^ (16 * i) * (X / 2 ^ (16 * i) + Y / 2 ^ (16 * i)) by rw [Nat.mul_add]; omega]
    rw [Nat.add_mul_div_left _ _ hp]; omega
  unfold l16
  rw [e2, e1]
  have := car16_le X Y i
  generalize car16 X Y i = c at *
  generalize X / 2 ^ (16 * i) = x at *
  generalize Y / 2 ^ (16 * i) = y at *
  omega
/-- what is borrowed from part i of a difference -/
def bor16 (X Y i : Nat) : Nat := if X % 2 ^ (16 * i) < Y % 2 ^ (16 * i) then 1 else 0
theorem bor16_zero (X Y : Nat) : bor16 X Y 0 = 0 := by simp [bor16, Nat.mod_one]
theorem bor16_le (X Y i : Nat) : bor16 X Y i ≤ 1 := by unfold bor16; split <;> omega
theorem sub16_step (X Y i : Nat) (h : Y ≤ X) : l16 X i - l16 Y i - (bor16 X Y i : Int) = l16 (X - Y) i - 65536 * (bor16 X Y (i + 1) : Int) := by
  obtain ⟨Z, rfl⟩ : ∃ Z, X = Y + Z := ⟨X - Y, by omega⟩
  rw [Nat.add_sub_cancel_left]
  have h1 := add16_step Y Z i
  have key : ∀ k, bor16 (Y + Z) Y k = car16 Y Z k := by
    intro k
    unfold bor16 car16
    have hp := Nat.two_pow_pos (16 * k)
    have hy := Nat.mod_lt Y hp
    have hz := Nat.mod_lt Z hp
    rw [Nat.add_mod]
    generalize Y % 2 ^ (16 * k) = y at *
    generalize Z % 2 ^ (16 * k) = z at *
    generalize 2 ^ (16 * k) = W at *
    by_cases hlt : y + z < W
    · rw [Nat.mod_eq_of_lt hlt, Nat.div_eq_of_lt hlt, if_neg (by omega)]
    · have e1 : (y + z) / W = 1 := by
        rw [Nat.div_eq_iff hp]; omega
      have e2 : (y + z) % W = y + z - W := by rw [Nat.mod_eq_sub_mod (by omega), Nat.mod_eq_of_lt (by omega)]
      rw [e1, e2, if_pos (by omega)]
  rw [key, key]
  omega
theorem l16_ext {X Y : Nat} (hX : X < P256) (hY : Y < P256) (h : ∀ i, i < 16 → l16 X i = l16 Y i) : X = Y := by
  have key : ∀ n, n ≤ 16 → X % 2 ^ (16 * n) = Y % 2 ^ (16 * n) := by
    intro n
    induction n with
    | zero => intro _; simp [Nat.mod_one]
    | succ n ih =>
      intro hn
      have h1 := h n (by omega)
      unfold l16 at h1
      rw [mod16_succ, mod16_succ, ih (by omega)]
      have h2 : X / 2 ^ (16 * n) % 65536 = Y / 2 ^ (16 * n) % 65536 := by omega
      rw [h2]
  have := key 16 (Nat.le_refl _)
  rw [Nat.mod_eq_of_lt (show X < 2 ^ (16 * 16) from hX), Nat.mod_eq_of_lt (show Y < 2 ^ (16 * 16) from hY)] at this
  exact this
/-- parts from n on decide which number is less -/
theorem lt_of_parts {X Y : Nat} (n : Nat) (hn : n < 16) (hX : X < P256) (hY : Y < P256) (h : ∀ i, n < i → i < 16 → l16 X i = l16 Y i) (hlt : l16 X n < l16 Y n) : X < Y := by
  have e : X / 2 ^ (16 * (n + 1)) = Y / 2 ^ (16 * (n + 1)) := by
    have key : ∀ m, m ≤ 15 - n → X / 2 ^ (16 * (16 - m)) = Y / 2 ^ (16 * (16 - m)) := by
      intro m
      induction m with
      | zero => intro _; rw [Nat.sub_zero, Nat.div_eq_of_lt (show X < 2 ^ (16 * 16) from hX), Nat.div_eq_of_lt (show Y < 2 ^ (16 * 16) from hY)]
      | succ m ih =>
        intro hm
        have ih' := ih (by omega)
        have h1 := h (16 - (m + 1)) (by omega) (by omega)
        unfold l16 at h1
        obtain ⟨k, hk⟩ : ∃ k, 16 - (m + 1) = k := ⟨_, rfl⟩
        rw [hk] at h1 ⊢
        rw [show 16 - m = k + 1 by omega, pow16_succ, ← Nat.div_div_eq_div_mul, ← Nat.div_div_eq_div_mul] at ih'
        generalize X / 2 ^ (16 * k) = x at *
        generalize Y / 2 ^ (16 * k) = y at *
        omega
    have := key (15 - n) (Nat.le_refl _)
    rw [show 16 - (15 - n) = n + 1 by omega] at this
    exact this
  rw [pow16_succ, ← Nat.div_div_eq_div_mul, ← Nat.div_div_eq_div_mul] at e
  unfold l16 at hlt
  have h2 : X / 2 ^ (16 * n) < Y / 2 ^ (16 * n) := by
    generalize X / 2 ^ (16 * n) = x at *
    generalize Y / 2 ^ (16 * n) = y at *
    omega
  exact Nat.lt_of_not_le fun hle => by
    have := Nat.div_le_div_right (c := 2 ^ (16 * n)) hle
    omega
end Go.Proofs.YtjikomnnhbbmaaaDoor
