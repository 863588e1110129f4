/- custumalref06.Of: a text's bytes, the lowest first, modulo the order. Conditions: the text is the bytes of a number. -/
import Derived.Test.YtgmdpiaenfogcaaDoorRfB
import Derived.Test.YtgmdpiaenfogcaaDoorRfD
import Derived.Test.YtgmdpiaenfogcaaDoorScG
namespace Go.Proofs.YtgmdpiaenfogcaaDoor
open Go.RowKit

theorem byt_bval (bs : Nat → Int) (h : ∀ j, u8ok (bs j)) : ∀ n j, j < n → byt (bval bs n) j = bs j
  | 0, j, hj => by omega
  | n + 1, j, hj => by
    have hl := bval_lt bs h n
    obtain ⟨b0, b1⟩ := h n
    show byt (bval bs n + (bs n).toNat * 2 ^ (8 * n)) j = _
    by_cases he : j = n
    · subst he
      unfold byt
      rw [Nat.add_mul_div_right _ _ (Nat.two_pow_pos _), Nat.div_eq_of_lt hl]
      omega
    · rw [← byt_bval bs h n j (by omega)]
      unfold byt
      obtain ⟨d, rfl⟩ : ∃ d, n = j + 1 + d := ⟨n - j - 1, by omega⟩
      rw [show 8 * (j + 1 + d) = 8 * j + (8 + 8 * d) by omega, Nat.pow_add 2 (8 * j), Nat.mul_left_comm, Nat.add_mul_div_left _ _ (Nat.two_pow_pos _), Nat.pow_add 2 8, Nat.mul_left_comm, show (2 : Nat) ^ 8 = 256 by decide, Nat.add_mul_mod_self_left]

theorem half_step (T p : Nat) : (T / 2 ^ p % 2 = 0 → (T / 2 ^ (p + 1) % LL + T / 2 ^ (p + 1) % LL) % LL = T / 2 ^ p % LL) ∧
    (T / 2 ^ p % 2 = 1 → ((T / 2 ^ (p + 1) % LL + T / 2 ^ (p + 1) % LL) % LL + 1) % LL = T / 2 ^ p % LL) := by
  rw [Nat.pow_succ, ← Nat.div_div_eq_div_mul]
  generalize T / 2 ^ p = U
  constructor
  · intro h
    rw [← Nat.add_mod, show U / 2 + U / 2 = U by omega]
  · intro h
    rw [← Nat.add_mod, Nat.add_mod, Nat.mod_mod, ← Nat.add_mod, show U / 2 + U / 2 + 1 = U by omega]
theorem bit_of (T i k : Nat) (hk : k < 8) : byt T i / 2 ^ k % 2 = ((T / 2 ^ (8 * i + k) % 2 : Nat) : Int) := by
  unfold byt
  rw [Nat.pow_add, ← Nat.div_div_eq_div_mul]
  generalize T / 2 ^ (8 * i) = x
  have h : k = 0 ∨ k = 1 ∨ k = 2 ∨ k = 3 ∨ k = 4 ∨ k = 5 ∨ k = 6 ∨ k = 7 := by omega
  rcases h with rfl | rfl | rfl | rfl | rfl | rfl | rfl | rfl <;> simp only [Nat.reducePow, Int.reducePow] <;> omega
theorem A16_one : A16 1 = .agg #[.int .i64 1, .int .i64 0, .int .i64 0, .int .i64 0, .int .i64 0, .int .i64 0, .int .i64 0, .int .i64 0, .int .i64 0, .int .i64 0, .int .i64 0, .int .i64 0, .int .i64 0, .int .i64 0, .int .i64 0, .int .i64 0] := by
  unfold A16; rw [arrK_map, show (List.range 16).map (l16 1) = [1, 0, 0, 0, 0, 0, 0, 0, 0, 0, 0, 0, 0, 0, 0, 0] by decide +kernel]; rfl
theorem arr16_zero : arrK .i64 16 (l16 0) = arrK .i64 16 (fun _ => 0) := arrK_congr _ _ _ _ (fun i _ => by simp [l16])
theorem strN_size (n : Nat) (f : Nat → Int) : (strOfNums ((List.range n).map f)).size = n := by rw [strOfNums_size]; simp
theorem strN_index {P : Program} (t : TypeId) (ht : P.underlying t = some .string) (n : Nat) (f : Nat → Int) (hf : ∀ j, j < n → u8ok (f j)) (i : Nat) (hi : i < n) (w : World) :
    (Instr.index t (.string (strOfNums ((List.range n).map f))) (.int .i64 (i : Int))).run P w = .ok (.int .u8 (f i)) w := by
  have hb := hf i hi
  have hs := strN_size n f
  have hlt : i < (strOfNums ((List.range n).map f)).size := by omega
  have hg : ((strOfNums ((List.range n).map f))[i]'hlt).toNat = (f i).toNat := by
    show (((strOfNums ((List.range n).map f)).data[i]'hlt)).toNat = _
    simp only [strOfNums, List.map_map, List.getElem_toArray, List.getElem_map, List.getElem_range, Function.comp]
    obtain ⟨h0, h1⟩ := hb
    have : (f i).toNat < 256 := by omega
    simp [UInt8.toNat_ofNat', Nat.mod_eq_of_lt this]
  have hfi : ((f i).toNat : Int) = f i := Int.toNat_of_nonneg hb.1
  simp [Instr.index, asIntOf, run_underlying ht, hs, hi, hlt, hg, hfi]
end Go.Proofs.YtgmdpiaenfogcaaDoor
