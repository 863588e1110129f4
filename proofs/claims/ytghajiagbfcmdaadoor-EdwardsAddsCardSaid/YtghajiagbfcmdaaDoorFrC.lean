/- custumalref05.Add, Of, Parts. No conditions. -/
import Derived.Test.YtghajiagbfcmdaaDoorFrB
import Derived.Test.YtghajiagbfcmdaaDoorGa
import Derived.Test.YtghajiagbfcmdaaDoorFeD
namespace Go.Proofs.YtghajiagbfcmdaaDoor
set_option linter.unusedSimpArgs false
set_option linter.unusedVariables false
open Go.RowKit

theorem okF_l16 (X : Nat) : okF (l16 X) := fun j => by have := l16_ok X j; omega
theorem okF_add (X Y : Nat) : okF (fun j => l16 X j + l16 Y j) := fun j => by have := l16_ok X j; have := l16_ok Y j; dsimp only; omega
theorem sval_sum (X Y : Nat) (hX : X < P256) (hY : Y < P256) : sval (fun j => l16 X j + l16 Y j) 16 = X + Y := by
  rw [sval_add _ _ (fun j => (l16_ok X j).1) (fun j => (l16_ok Y j).1), sval_l16, sval_l16, show (2 : Nat) ^ (16 * 16) = P256 by decide, Nat.mod_eq_of_lt hX, Nat.mod_eq_of_lt hY]
theorem sval_one (X : Nat) (hX : X < P256) : sval (l16 X) 16 = X := by
  rw [sval_l16, show (2 : Nat) ^ (16 * 16) = P256 by decide, Nat.mod_eq_of_lt hX]
theorem lim_l16 (n q r : Nat) (hr : r < 4) : bits .and .u64 (lim n q / 2 ^ (16 * r)) 65535 = l16 n (4 * q + r) := by
  unfold lim l16
  have e0 : ((n / 2 ^ (64 * q) % 18446744073709551616 : Nat) : Int) / 2 ^ (16 * r) = ((n / 2 ^ (64 * q) % 18446744073709551616 / 2 ^ (16 * r) : Nat) : Int) := by
    rw [Int.natCast_ediv, Int.natCast_pow]; rfl
  have e : n / 2 ^ (16 * (4 * q + r)) % 65536 = n / 2 ^ (64 * q) % 18446744073709551616 / 2 ^ (16 * r) % 65536 := by
    rw [show 16 * (4 * q + r) = 64 * q + 16 * r by omega, Nat.pow_add, ← Nat.div_div_eq_div_mul]
    generalize n / 2 ^ (64 * q) = m
    have : r = 0 ∨ r = 1 ∨ r = 2 ∨ r = 3 := by omega
    rcases this with h | h | h | h <;> subst h <;> simp only [Nat.reduceMul, Nat.reducePow] <;> omega
  have hb : n / 2 ^ (64 * q) % 18446744073709551616 / 2 ^ (16 * r) < 18446744073709551616 := Nat.lt_of_le_of_lt (Nat.div_le_self _ _) (Nat.mod_lt _ (by decide))
  rw [e0, e]
  generalize n / 2 ^ (64 * q) % 18446744073709551616 / 2 ^ (16 * r) = x at *
  have e2 : bits .and .u64 ((x : Nat) : Int) ((65535 : Nat) : Int) = ((x % 65536 : Nat) : Int) := by
    rw [bits_and_u64_nat _ _ (by omega) (by omega), show (65535 : Nat) = 2 ^ 16 - 1 by decide, Nat.and_two_pow_sub_one_eq_mod]
  exact e2
theorem part_or (n q r : Nat) (hr : r < 4) : bits .or .u64 (lim (n % 2 ^ (16 * (4 * q + r))) q) (IntKind.wrap .u64 (l16 n (4 * q + r) * 2 ^ (16 * r))) = lim (n % 2 ^ (16 * (4 * q + r + 1))) q := by
  have hl : n % 2 ^ (16 * (4 * q + r)) < 2 ^ (16 * (4 * q + r)) := Nat.mod_lt _ (Nat.two_pow_pos _)
  rw [mod16_succ n (4 * q + r)]
  unfold l16
  have hx : n / 2 ^ (16 * (4 * q + r)) % 65536 < 65536 := Nat.mod_lt _ (by decide)
  generalize n / 2 ^ (16 * (4 * q + r)) % 65536 = x at *
  generalize n % 2 ^ (16 * (4 * q + r)) = V at *
  rw [show 16 * (4 * q + r) = 64 * q + 16 * r by omega, Nat.pow_add] at *
  have hV : V / 2 ^ (64 * q) < 2 ^ (16 * r) := Nat.div_lt_of_lt_mul hl
  have hp : (2 : Nat) ^ (16 * r) ≤ 2 ^ 48 := Nat.pow_le_pow_right (by omega) (by omega)
  have hxp : x * 2 ^ (16 * r) ≤ 65535 * 2 ^ 48 := Nat.mul_le_mul (by omega) hp
  unfold lim
  have e1 : (V + x * (2 ^ (64 * q) * 2 ^ (16 * r))) / 2 ^ (64 * q) = V / 2 ^ (64 * q) + x * 2 ^ (16 * r) := by
    rw [Nat.mul_left_comm, Nat.add_mul_div_left _ _ (Nat.two_pow_pos _)]
  rw [e1]
  generalize V / 2 ^ (64 * q) = v at *
  have e0 : (x : Int) * 2 ^ (16 * r) = ((x * 2 ^ (16 * r) : Nat) : Int) := by rw [Int.natCast_mul, Int.natCast_pow]; rfl
  have hxq : x * 2 ^ (16 * r) < 18446744073709551616 := Nat.lt_of_le_of_lt hxp (by decide)
  have e2 : IntKind.wrap .u64 ((x : Int) * 2 ^ (16 * r)) = ((x * 2 ^ (16 * r) : Nat) : Int) := by
    rw [e0]; exact wrap_nat _ hxq
  rw [e2]
  have p48 : (2 : Nat) ^ 48 = 281474976710656 := by decide
  rw [bits_or_u64_nat _ _ (by omega) (by omega)]
  have e3 : v % 18446744073709551616 ||| x * 2 ^ (16 * r) = v + x * 2 ^ (16 * r) := by
    rw [Nat.mod_eq_of_lt (by omega), Nat.or_comm, Nat.mul_comm x, ← Nat.two_pow_add_eq_or_of_lt hV, Nat.add_comm]
  rw [e3]
  congr 1
  rw [Nat.mod_eq_of_lt (by omega)]
theorem part_other (n k j : Nat) (hj : j ≠ k / 4) : lim (n % 2 ^ (16 * (k + 1))) j = lim (n % 2 ^ (16 * k)) j := by
  have hl : n % 2 ^ (16 * k) < 2 ^ (16 * k) := Nat.mod_lt _ (Nat.two_pow_pos _)
  by_cases hlt : j < k / 4
  · rw [mod16_succ n k]
    generalize n / 2 ^ (16 * k) % 65536 = x at *
    generalize n % 2 ^ (16 * k) = V at *
    unfold lim
    obtain ⟨d, hd⟩ : ∃ d, 16 * k = 64 * j + (64 + d) := ⟨16 * k - 64 * j - 64, by omega⟩
    rw [hd, Nat.pow_add 2 (64 * j), Nat.mul_left_comm, Nat.add_mul_div_left _ _ (Nat.two_pow_pos _), Nat.pow_add 2 64 d, Nat.mul_left_comm]
    have e : (2 : Nat) ^ 64 = 18446744073709551616 := by decide
    rw [e, Nat.add_mul_mod_self_left]
  · have h1 : n % 2 ^ (16 * (k + 1)) < 2 ^ (16 * (k + 1)) := Nat.mod_lt _ (Nat.two_pow_pos _)
    have h2 : (2 : Nat) ^ (16 * (k + 1)) ≤ 2 ^ (64 * j) := Nat.pow_le_pow_right (by omega) (by omega)
    have h2' : (2 : Nat) ^ (16 * k) ≤ 2 ^ (64 * j) := Nat.pow_le_pow_right (by omega) (by omega)
    unfold lim
    rw [Nat.div_eq_of_lt (Nat.lt_of_lt_of_le h1 h2), Nat.div_eq_of_lt (Nat.lt_of_lt_of_le hl h2')]
theorem part_set (n q r : Nat) (hr : r < 4) :
    (arrK .u64 4 (lim (n % 2 ^ (16 * (4 * q + r))))).setIfInBounds q (.int .u64 (bits .or .u64 (lim (n % 2 ^ (16 * (4 * q + r))) q) (IntKind.wrap .u64 (l16 n (4 * q + r) * 2 ^ (16 * r))))) = arrK .u64 4 (lim (n % 2 ^ (16 * (4 * q + r + 1)))) := by
  rw [part_or n q r hr, arrK_set]
  apply arrK_congr
  intro j _
  by_cases hj : j = q
  · subst hj; rw [upd_same]
  · rw [upd_other _ _ _ _ hj, part_other n (4 * q + r) j (by omega)]

set_option maxHeartbeats 4000000 in
theorem rAdd_c (X Y : Nat) (hX : X < P256) (hY : Y < P256) (w : World) :
    Calls Tryd.prog 43 #[A16 X, A16 Y] w fun e w' => Ret (A16 ((X + Y) % PP)) w w' e := by
  have HX := Lib.hid hX
  have HY := Lib.hid hY
  clear hX hY
  unfold A16
  go_enter Tryd.func43, Tryd.ntmps43
  go_wp2_with fail
  refine wp_world (fun W => Below w.heap.size w W ∧ Blk W w.heap.size (arrK .i64 16 (l16 X)) 39 ∧ Blk W (w.heap.size + 1) (arrK .i64 16 (l16 Y)) 39 ∧ Blk W (w.heap.size + 2) (arrK .i64 16 (fun _ => 0)) 39) ⟨(by (repeat' (first | (with_reducible assumption) | (with_reducible exact Below.refl _ _) | (with_reducible refine Below.drew ?_) | (with_reducible refine Below.alloc ?_ ?_ _) | (with_reducible refine below_set ?_ ?_ _ _) | (with_reducible refine below_setRow ?_ ?_ _) | (with_reducible refine below_step ?_ (by assumption) ?_))) <;> (first | omega | ((try simp only [World.size_alloc, World.size_setCell, World.size_drew, size_setRow]); omega))), blk_alloc (blk_alloc (blk_new _ _ rfl) _) _, blk_alloc (blk_new _ _ (by simp)) _, blk_new _ _ (by simp)⟩ ?_
  rintro W0 ⟨bel, k_t2, k_t3, k_t4⟩
  have lt_t2_0 := blk_lt k_t2
  have lt_t3_0 := blk_lt k_t3
  have lt_t4_0 := blk_lt k_t4
  go_wp2_with fail
  go_loopw [5] (fun ii wr => ∃ (k : Nat), k ≤ 16 ∧ ii = .int .i64 k ∧ Below w.heap.size w wr ∧ Blk wr w.heap.size (arrK .i64 16 (mixF k (fun j => l16 X j + l16 Y j) (l16 X))) 39 ∧ Blk wr (w.heap.size + 1) (arrK .i64 16 (l16 Y)) 39 ∧ Blk wr (w.heap.size + 2) (arrK .i64 16 (fun _ => 0)) 39)
    (fun ii _ => (16 - intOf ii).toNat)
  case atStart =>
    refine ⟨0, by omega, rfl, bel, ?_, k_t3, k_t4⟩
    rw [mixF_zero]; exact k_t2
  case round =>
    obtain ⟨k, hk, rfl, bel, k_t2, k_t3, k_t4⟩ := hrel
    by_cases hexit : k = 16
    · have _hx := hexit
      subst hexit
      rw [mixF_all] at k_t2
      go_upto_region 5 with fail
      have lt_t2_1 := blk_lt k_t2
      have lt_t3_1 := blk_lt k_t3
      have lt_t4_1 := blk_lt k_t4
      have c_t := rtidy_c (fun j => l16 X j + l16 Y j) (okF_add X Y)
      rw [sval_sum X Y HX.out HY.out] at c_t
      obtain ⟨R, hR⟩ : ∃ v_, v_ = (X + Y) % PP := ⟨_, rfl⟩
      rw [← hR] at c_t
      have HR := Lib.hid hR
      clear hR
      refine wp_region_pn 2 [] (fun x hx => by cases hx) (by kernel_rfl) ?_
      simp only [List.take_succ_cons, List.take_zero, List.take_nil]
      (try simp only [Act.put, List.setIfInBounds_toArray, List.set_cons_zero, List.set_cons_succ])
      ((with_reducible refine wpX_load (b := ?_) (cs := ?_) ?_ rfl ?_ ?_ ?_ ?_ ?_); rotate_left 2; (focus rfl); (focus rfl); (focus first | assumption | exact blk_rd (by assumption)); (focus kernel_rfl); (focus kernel_rfl); (try simp only [Act.put, List.setIfInBounds_toArray, List.set_cons_zero, List.set_cons_succ]))
      ((with_reducible refine wpX_fn (fun W hW => c_t W) ?_ rfl ?_ ?_ ?_); (focus rfl); (focus kernel_rfl); (focus rfl); (try simp only [Act.put, List.setIfInBounds_toArray, List.set_cons_zero, List.set_cons_succ]))
      refine wpX_nil ?_
      intro β W2 hE hN hD
      simp only [putAll, Act.put, List.setIfInBounds_toArray, List.set_cons_zero, List.set_cons_succ, List.drop_succ_cons, List.drop_zero, List.drop_nil, List.length_cons, List.length_nil]
      clear hN hD β
      refine wpL_store (g := (w.heap.size + 2)) (cells := arrK .i64 16 (l16 R)) (by rfl) rfl rfl rfl (blk_step k_t4 hE) (by kernel_rfl) (by kernel_rfl) (arrK_one _ _ _) ?_
      (try simp only [Act.put, List.setIfInBounds_toArray, List.set_cons_zero, List.set_cons_succ])
      refine wpL_nil ?_
      have hF : Below w.heap.size w (W2.setRow (w.heap.size + 2) (arrK .i64 16 (l16 R))) ∧ Blk (W2.setRow (w.heap.size + 2) (arrK .i64 16 (l16 R))) w.heap.size (arrK .i64 16 (fun j => l16 X j + l16 Y j)) 39 ∧ Blk (W2.setRow (w.heap.size + 2) (arrK .i64 16 (l16 R))) (w.heap.size + 1) (arrK .i64 16 (l16 Y)) 39 ∧ Blk (W2.setRow (w.heap.size + 2) (arrK .i64 16 (l16 R))) (w.heap.size + 2) (arrK .i64 16 (l16 R)) 39 := ⟨(below_setRow (below_step bel hE bel.size) (by omega) _), (blk_setRow_other (blk_step k_t2 hE) (by omega) _), (blk_setRow_other (blk_step k_t3 hE) (by omega) _), (blk_setRow (blk_step k_t4 hE) (arrK .i64 16 (l16 R)))⟩
      generalize (W2.setRow (w.heap.size + 2) (arrK .i64 16 (l16 R))) = W3 at hF ⊢
      clear bel k_t2 k_t3 k_t4
      obtain ⟨bel, k_t2, k_t3, k_t4⟩ := hF
      go_wp2
      refine bodyPost_ret (res_row rfl rfl k_t4 (by kernel_rfl) (by kernel_rfl)) rfl ⟨?_, bel⟩
      (rw [← HR.out] <;> rfl)
    · have hk3 : k < 16 := by omega
      have hk3' : (k : Int) < 16 := by omega
      clear hexit
      have c0 := (blk_cell k_t2 k).trans (arrK_get _ _ _ _ hk3)
      rw [mixF_at] at c0
      have c1 := (blk_cell k_t3 k).trans (arrK_get _ _ _ _ hk3)
      have f0 := blk_free k_t2
      have l0 := l16_ok X k
      have l1 := l16_ok Y k
      have w1 : IntKind.i64.wrap (l16 X k + l16 Y k) = l16 X k + l16 Y k := IntWalk.i64_in _ (by omega)
      go_wp2
      go_region
      go_wp2
      have hs := blk_set k_t2 k (.int .i64 (l16 X k + l16 Y k))
      have hm := mixF_set .i64 16 k (fun j => l16 X j + l16 Y j) (l16 X)
      rw [hm] at hs
      go_roundw
      case rel =>
        refine ⟨k + 1, by omega, ?_, ?_, blk_drew hs, ?_, ?_⟩
        · (first | rfl | go_num)
        · exact (below_set bel (by omega) _ _).drew
        · exact blk_drew (blk_other k_t3 (by omega) _ _)
        · exact blk_drew (blk_other k_t4 (by omega) _ _)
      case measure => simp [intOf]; omega
end Go.Proofs.YtghajiagbfcmdaaDoor
