/- scalar.fold: words, the lowest first, as one number modulo the order. Conditions: the words lie in memory, each of 64 bits; scalar.order holds the order. -/
import Derived.Test.YtgmdpiaenfogcaaDoorScA
import Derived.Test.YtgmdpiaenfogcaaDoorWval
import Derived.Deep.RegionHeld3
import Derived.Deep.RegionWith
import Derived.StillTailTactics
namespace Go.Proofs.YtgmdpiaenfogcaaDoor
open Go.RowKit

theorem wval_bit (ws : Nat → Int) : ∀ n q r, q < n → r < 64 → (∀ j, j < n → u64ok (ws j)) → wval ws n / 2 ^ (64 * q + r) % 2 = (ws q).toNat / 2 ^ r % 2
  | 0, _, _, h, _, _ => by omega
  | n + 1, q, r, h, hr, hw => by
    show (wval ws n + (ws n).toNat * 2 ^ (64 * n)) / 2 ^ (64 * q + r) % 2 = _
    by_cases hq : q = n
    · subst hq
      have hl := wval_lt ws q (fun j hj => hw j (by omega))
      rw [Nat.pow_add, ← Nat.div_div_eq_div_mul, Nat.add_mul_div_right _ _ (Nat.two_pow_pos _), Nat.div_eq_of_lt hl, Nat.zero_add]
    · have ih := wval_bit ws n q r (by omega) hr (fun j hj => hw j (by omega))
      obtain ⟨d, hd⟩ : ∃ d, 64 * n = (64 * q + r) + (1 + d) := ⟨64 * n - (64 * q + r) - 1, by omega⟩
      rw [hd, Nat.pow_add 2 (64 * q + r), Nat.mul_left_comm, Nat.add_mul_div_left _ _ (Nat.two_pow_pos _), Nat.pow_add 2 1 d, Nat.mul_left_comm, Nat.pow_one, Nat.add_mul_mod_self_left]
      exact ih
theorem word_bit (ws : Nat → Int) (n q r : Nat) (hq : q < n) (hr : r < 64) (hw : ∀ j, j < n → u64ok (ws j)) :
    (0 ≤ bits .and .u64 (ws q / 2 ^ r) 1 ∧ bits .and .u64 (ws q / 2 ^ r) 1 ≤ 1) ∧ (bits .and .u64 (ws q / 2 ^ r) 1).toNat = wval ws n / 2 ^ (64 * q + r) % 2 := by
  have hb := wval_bit ws n q r hq hr hw
  obtain ⟨x0, x1⟩ := hw q hq
  obtain ⟨X, hX⟩ := Int.eq_ofNat_of_zero_le x0
  rw [hX] at hb x1 ⊢
  rw [Int.toNat_natCast] at hb
  have e : ((X : Int) / 2 ^ r) = ((X / 2 ^ r : Nat) : Int) := by push_cast; rfl
  have hl : X / 2 ^ r ≤ X := Nat.div_le_self _ _
  have e2 : bits .and .u64 (((X / 2 ^ r : Nat) : Int)) ((1 : Nat) : Int) = ((X / 2 ^ r % 2 : Nat) : Int) := by
    rw [bits_and_u64_nat _ _ (by omega) (by omega), Nat.and_one_is_mod]
  rw [e]
  have e3 : bits .and .u64 (((X / 2 ^ r : Nat) : Int)) 1 = ((X / 2 ^ r % 2 : Nat) : Int) := e2
  rw [e3, hb]
  omega
theorem bit_step (V K : Nat) : (2 * (V / 2 ^ (K + 1) % LL) + V / 2 ^ K % 2) % LL = V / 2 ^ K % LL := by
  have e : V / 2 ^ K = 2 * (V / 2 ^ (K + 1)) + V / 2 ^ K % 2 := by
    rw [Nat.pow_succ, ← Nat.div_div_eq_div_mul]; omega
  have h1 : (2 * (V / 2 ^ (K + 1) % LL) + V / 2 ^ K % 2) % LL = (2 * (V / 2 ^ (K + 1)) + V / 2 ^ K % 2) % LL := by
    rw [Nat.add_mod, Nat.mul_mod, Nat.mod_mod, ← Nat.mul_mod, ← Nat.add_mod]
  rw [h1, ← e]
theorem lt_256 (x : Nat) : x % LL < 115792089237316195423570985008687907853269984665640564039457584007913129639936 :=
  Nat.lt_trans (Nat.mod_lt _ (by decide)) (by decide)
set_option maxHeartbeats 2000000 in
theorem fold_c (ws : Nat → Int) (b off len cap : Nat) (w : World) (hG : GL w) (hlen : len ≤ 100) (hws : ∀ j, j < len → u64ok (ws j))
    (hc : ∀ j, j < len → w.cell? ⟨b, off + j, none⟩ = some (.int .u64 (ws j))) (hb : b < w.heap.size) :
    Calls Tryd.prog 26 #[.slice (some ⟨b, off, none⟩) len cap] w fun e w' => Ret (L4 (wval ws len % LL)) w w' e := by
  go_enter Tryd.func26, Tryd.ntmps26
  go_wp2
  go_loopw [4] (fun i wr => ∃ k : Nat, k ≤ 64 * len ∧ i = .int .i64 ((k : Int) - 1) ∧ Below w.heap.size w wr ∧
      Blk wr w.heap.size #[.int .u64 0, .int .u64 0, .int .u64 0, .int .u64 0] 27 ∧
      Blk wr (w.heap.size + 1) #[.int .u64 (lim (wval ws len / 2 ^ k % LL) 0), .int .u64 (lim (wval ws len / 2 ^ k % LL) 1), .int .u64 (lim (wval ws len / 2 ^ k % LL) 2), .int .u64 (lim (wval ws len / 2 ^ k % LL) 3)] 27)
    (fun i _ => (intOf i + 1).toNat)
  case atStart =>
    refine ⟨64 * len, Nat.le_refl _, ?_, ?_, ?_, ?_⟩
    · congr 1; omega
    · (repeat' (first | (with_reducible assumption) | (with_reducible exact Below.refl _ _) | (with_reducible refine Below.drew ?_) | (with_reducible refine Below.alloc ?_ ?_ _) | (with_reducible refine below_set ?_ ?_ _ _) | (with_reducible refine below_setRow ?_ ?_ _) | (with_reducible refine below_step ?_ (by assumption) ?_))) <;> (first | omega | ((try simp only [World.size_alloc, World.size_setCell, World.size_drew, size_setRow]); omega))
    · exact blk_alloc (blk_new _ _ rfl) _
    · rw [Nat.div_eq_of_lt (wval_lt ws len hws)]
      exact blk_new _ _ (by simp)
  case round =>
    obtain ⟨k, hk, rfl, hbel, hB0, hB1⟩ := hrel
    by_cases hk0 : k = 0
    · subst hk0
      have hc1 := blk_cell hB1
      have hf1 := blk_free hB1
      have hc0 := blk_cell hB0
      have hf0 := blk_free hB0
      go_wp2
      refine bodyPost_ret (v := L4 (wval ws len % LL)) (by simp only [results, Tryd.results26]; go_simp) rfl ⟨rfl, ?_⟩
      (repeat' (first | (with_reducible assumption) | (with_reducible exact Below.refl _ _) | (with_reducible refine Below.drew ?_) | (with_reducible refine Below.alloc ?_ ?_ _) | (with_reducible refine below_set ?_ ?_ _ _) | (with_reducible refine below_setRow ?_ ?_ _) | (with_reducible refine below_step ?_ (by assumption) ?_))) <;> (first | omega | ((try simp only [World.size_alloc, World.size_setCell, World.size_drew, size_setRow]); omega))
    · obtain ⟨q, r, hr, rfl⟩ : ∃ q r, r < 64 ∧ k = 64 * q + r + 1 := ⟨(k - 1) / 64, (k - 1) % 64, by omega, by omega⟩
      have e1 : ((64 * q + r + 1 : Nat) : Int) - 1 = 64 * (q : Int) + (r : Int) := by omega
      rw [e1]
      clear hk0 e1
      have hcell := (hbel.cell (p := ⟨b, off + q, none⟩) hb).trans (hc q (by omega))
      have w1 : IntKind.i64.wrap ((64 * (q : Int) + (r : Int)).tdiv 64) = (q : Int) := by rw [Int.tdiv_eq_ediv_of_nonneg (by omega), IntWalk.i64_in _ (by omega)]; omega
      have w2 : (64 * (q : Int) + (r : Int)).tmod 64 = (r : Int) := by rw [Int.tmod_eq_emod_of_nonneg (by omega)]; omega
      have hr0 : 0 ≤ (r : Int) := by omega
      have hq0 : (0 : Int) ≤ 64 * (q : Int) + (r : Int) := by omega
      have hq1 : (q : Int) < (len : Int) := by omega
      have hr1 : (r : Int) < 64 := by omega
      have hc1 := blk_cell hB1
      have hf1 := blk_free hB1
      go_wp2
      go_still_tail 10, (by kernel_rfl)
      change wpList _ _ _ _ _ wr.drew
      obtain ⟨hB, hbt⟩ := word_bit ws len q r (by omega) hr hws
      generalize bits .and .u64 (ws q / 2 ^ r) 1 = bt at *
      have HB := Lib.hid hbt
      clear hbt hcell w1 w2
      have HT := twice_c _ _ _ _ bt (lim_U4 (wval ws len / 2 ^ (64 * q + r + 1) % LL)) hB.1 hB.2 (by rw [val4_lim _ (lt_256 _)]; exact Nat.mod_lt _ (by decide)) wr.drew (GL_below (hG) hbel.drew (by have := hG.2.2.2.2; omega))
      go_wp2_with (go_at_call 32; refine HT.mono ?_; rintro e w3 ⟨rfl, hb3⟩; have hc3 := blk_cell (blk_step (blk_drew hB1) hb3); have hf3 := blk_free (blk_step (blk_drew hB1) hb3))
      rw [val4_lim _ (lt_256 _), HB.out, bit_step]
      have sz := hbel.size
      have sz3 := hb3.size
      go_roundw
      case rel =>
        refine ⟨64 * q + r, by omega, by go_num, ?_, blk_other4 (blk_step (blk_drew hB0) hb3) (by omega) _ _ _ _, blk_set4 (blk_step (blk_drew hB1) hb3) _ _ _ _⟩
        (repeat' (first | (with_reducible assumption) | (with_reducible exact Below.refl _ _) | (with_reducible refine Below.drew ?_) | (with_reducible refine Below.alloc ?_ ?_ _) | (with_reducible refine below_set ?_ ?_ _ _) | (with_reducible refine below_setRow ?_ ?_ _) | (with_reducible refine below_step ?_ (by assumption) ?_))) <;> (first | omega | ((try simp only [World.size_alloc, World.size_setCell, World.size_drew, size_setRow]); omega))
      case measure => simp [intOf]; omega
end Go.Proofs.YtgmdpiaenfogcaaDoor
