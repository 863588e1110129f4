/- custumalref06.Mul. Conditions: the first number is below the order, the second below 2^256. custumalref06.Neg. Conditions: the number is below the order. -/
import Derived.Test.YtefpoollmbmkfaaDoorRc
import Derived.Test.YtefpoollmbmkfaaDoorRa
set_option linter.unusedSimpArgs false
set_option linter.unusedVariables false
namespace Go.Proofs.YtefpoollmbmkfaaDoor.Sc
set_option maxHeartbeats 4000000
set_option maxRecDepth 100000
open Go.RowKit

theorem half_mul (T p X : Nat) : (T / 2 ^ p % 2 = 0 → (T / 2 ^ (p + 1) * X % LL + T / 2 ^ (p + 1) * X % LL) % LL = T / 2 ^ p * X % LL) ∧
    (T / 2 ^ p % 2 = 1 → ((T / 2 ^ (p + 1) * X % LL + T / 2 ^ (p + 1) * X % LL) % LL + X) % LL = T / 2 ^ p * X % LL) := by
  rw [Nat.pow_succ, ← Nat.div_div_eq_div_mul]
  generalize T / 2 ^ p = U
  constructor
  · intro h
    rw [← Nat.add_mod, ← Nat.add_mul, show U / 2 + U / 2 = U by omega]
  · intro h
    rw [← Nat.add_mod, Nat.add_mod, Nat.mod_mod, ← Nat.add_mod, ← Nat.add_mul]
    rw [show (U / 2 + U / 2) * X + X = (U / 2 + U / 2 + 1) * X by rw [Nat.add_mul _ 1, Nat.one_mul], show U / 2 + U / 2 + 1 = U by omega]

theorem rmul_c (X T : Nat) (hX : X < LL) (hT : T < P256) (w : World) :
    Calls Tryd.prog 54 #[A16 X, A16 T] w fun e w' => Ret (A16 (X * T % LL)) w w' e := by
  have hT0 : T / 2 ^ (8 * 32) * X % LL = 0 := by rw [Nat.div_eq_of_lt (show T < 2 ^ (8 * 32) from hT), Nat.zero_mul]; rfl
  have hrb := rbytes_c T
  have hix := fun i (hi : i < 32) (W : World) => strN_index (P := Tryd.prog) 9 Tryd.underlying9 32 (byt T) (fun j _ => byt_ok T j) i hi W
  have hsz := strN_size 32 (byt T)
  unfold strN at hrb
  obtain ⟨S, hS⟩ : ∃ S, S = strOfNums ((List.range 32).map (byt T)) := ⟨_, rfl⟩
  rw [← hS] at hix hsz hrb
  unfold A16 at hrb
  have HRB := Lib.hid hrb
  have HT0 := Lib.hid hT0
  have HIX := Lib.hid hix
  have HX := Lib.hid hX
  clear hS hT hT0 hix hrb hX
  unfold A16
  go_enter Tryd.func54, Tryd.ntmps54
  go_wp2_with (first
    | (refine wpList_load_row rfl 83 (.tmp 3) rfl (w.heap.size + 1) rfl _ _ _ _ (blk_alloc (blk_alloc (blk_new (arrK .i64 16 (l16 T)) 83 (by simp)) _) _) Tryd.underlying83 rfl (by kernel_rfl) ?_)
    | (go_at_call 52; (with_reducible refine (HRB.out _).mono ?_); rintro e w1 ⟨rfl, hb1⟩))
  have b1 : Blk w1 (w.heap.size + 2) (arrK .i64 16 (fun _ => 0)) 83 := blk_step (blk_alloc (blk_new _ _ (by simp)) _) hb1
  have b2 : Blk w1 (w.heap.size + 3) (arrK .i64 16 (fun _ => 0)) 83 := blk_step (blk_new _ _ (by simp)) hb1
  have b3 : Blk w1 w.heap.size (arrK .i64 16 (l16 X)) 83 := blk_step (blk_alloc (blk_alloc (blk_alloc (blk_new _ _ rfl) _) _) _) hb1
  have hbel1 : Below w.heap.size w w1 := below_step bz hb1 (by simp only [World.size_alloc]; omega)
  go_loopw [7, 8] (fun ii _ wr => ∃ m : Nat, m ≤ 32 ∧ ii = .int .i64 ((m : Int) - 1) ∧ Below w.heap.size w wr ∧
      Blk wr (w.heap.size + 2) (arrK .i64 16 (fun _ => 0)) 83 ∧ Blk wr (w.heap.size + 3) (arrK .i64 16 (l16 (T / 2 ^ (8 * m) * X % LL))) 83 ∧ Blk wr w.heap.size (arrK .i64 16 (l16 X)) 83)
    (fun ii _ _ => (intOf ii + 1).toNat)
  case atStart =>
    exact ⟨32, Nat.le_refl _, rfl, hbel1, b1, by rw [HT0.out, arr16_zero]; exact b2, b3⟩
  case round =>
    obtain ⟨m, hm, rfl, hbel, b1, b2, b3⟩ := hrel
    by_cases hm0 : m = 0
    · subst hm0
      go_wp2_with (first
        | (refine wpList_load_row rfl 83 (.tmp 5) rfl (w.heap.size + 3) rfl _ _ _ _ b2 Tryd.underlying83 rfl (by kernel_rfl) ?_)
        | (refine wpList_store_row rfl 83 (.tmp 4) (.tmp 32) rfl (w.heap.size + 2) _ rfl rfl 83 _ b1 (by kernel_rfl) (by kernel_rfl) (arrK_one _ _ _) ?_))
      refine bodyPost_ret (results_cell_row rfl _ _ (w.heap.size + 2) _ _ _ _ rfl (blk_setRow b1 _) Tryd.underlying83 rfl (by kernel_rfl)) rfl ⟨?_, below_setRow hbel (by omega) _⟩
      rw [Nat.mul_zero, Nat.pow_zero, Nat.div_one, Nat.mul_comm T X]
    · obtain ⟨i, rfl⟩ : ∃ i, m = i + 1 := ⟨m - 1, by omega⟩
      have e1 : ((i + 1 : Nat) : Int) - 1 = (i : Int) := by omega
      rw [e1]
      clear hm0 e1
      have hi := HIX.out i (by omega)
      have HI := Lib.hid hi
      clear hi
      go_wp2
      go_loopw [8] (fun kk wr => ∃ k : Nat, k ≤ 8 ∧ kk = .int .i64 ((k : Int) - 1) ∧ Below w.heap.size w wr ∧
          Blk wr (w.heap.size + 2) (arrK .i64 16 (fun _ => 0)) 83 ∧ Blk wr (w.heap.size + 3) (arrK .i64 16 (l16 (T / 2 ^ (8 * i + k) * X % LL))) 83 ∧ Blk wr w.heap.size (arrK .i64 16 (l16 X)) 83)
        (fun kk _ => (intOf kk + 1).toNat)
      case atStart => exact ⟨8, Nat.le_refl _, rfl, hbel, b1, b2, b3⟩
      case round =>
        clear hbel b1 b2 b3
        obtain ⟨k, hk, rfl, hbel, b1, b2, b3⟩ := hrel
        by_cases hk0 : k = 0
        · subst hk0
          go_wp2
          go_roundw
          case rel => exact ⟨i, by omega, rfl, hbel, b1, b2, b3⟩
          case measure => (first | (simp [intOf]; done) | (simp [intOf]; omega))
        · obtain ⟨j, rfl⟩ : ∃ j, k = j + 1 := ⟨k - 1, by omega⟩
          have e1 : ((j + 1 : Nat) : Int) - 1 = (j : Int) := by omega
          rw [e1]
          clear hk0 e1
          have hi := HI.out
          have hj8 : (j : Int) < 8 := by omega
          have hi0 : (0 : Int) ≤ (i : Int) := by omega
          have off0.size := hbel.size
          have hbit := bit_of T i j (by omega)
          obtain ⟨st0, st1⟩ := half_mul T (8 * i + j) X
          have hU := Nat.mod_lt (T / 2 ^ (8 * i + (j + 1)) * X) (show 0 < LL by decide)
          have HU := Lib.hid hU
          clear hU
          obtain ⟨N, hN⟩ : ∃ N, N = T / 2 ^ (8 * i + (j + 1)) * X % LL := ⟨_, rfl⟩
          rw [show 8 * i + j + 1 = 8 * i + (j + 1) by omega, ← hN] at st0 st1
          rw [← hN] at b2 HU
          clear hN
          have htm : (byt T i / 2 ^ j).tmod 2 = ((T / 2 ^ (8 * i + j) % 2 : Nat) : Int) := by
            rw [← hbit]
            exact Int.tmod_eq_emod_of_nonneg (Int.ediv_nonneg (byt_ok T i).1 (Int.le_of_lt (Int.pow_pos (by decide))))
          clear hbit
          have ha0 := radd_c N N HU.out HU.out
          have hN2 := Nat.mod_lt (N + N) (show 0 < LL by decide)
          obtain ⟨N2, hN2e⟩ : ∃ N2, N2 = (N + N) % LL := ⟨_, rfl⟩
          obtain ⟨R, hR⟩ : ∃ R, R = T / 2 ^ (8 * i + j) * X % LL := ⟨_, rfl⟩
          rw [← hN2e] at ha0 st0 st1 hN2
          rw [← hR] at st0 st1
          have HR := Lib.hid hR
          clear hR hN2e
          unfold A16 at ha0
          have HA0 := Lib.hid ha0
          clear ha0
          rcases Nat.mod_two_eq_zero_or_one (T / 2 ^ (8 * i + j)) with h2 | h2
          · rw [h2] at htm
            rw [st0 h2] at HA0
            clear st0 st1 h2 hN2
            go_wp2_with (first
              | (refine wpList_load_row rfl 83 (.tmp 5) rfl (w.heap.size + 3) rfl _ _ _ _ b2 Tryd.underlying83 rfl (by kernel_rfl) ?_)
              | (go_at_call 53; (with_reducible refine (HA0.out _).mono ?_); rintro e w1 ⟨rfl, hb1⟩; have b1 := blk_step b1 hb1; have b2 := blk_step b2 hb1; have b3 := blk_step b3 hb1; have hbel := below_step hbel hb1 off0.size; have sz1 := hbel.size)
              | (refine wpList_store_row rfl 83 (.tmp 5) (.tmp 21) rfl (w.heap.size + 3) _ rfl rfl 83 _ b2 (by kernel_rfl) (by kernel_rfl) (arrK_one _ _ _) ?_; have b1 := blk_setRow_other b1 (show w.heap.size + 2 ≠ w.heap.size + 3 by omega) (arrK .i64 16 (l16 R)); have b3 := blk_setRow_other b3 (show w.heap.size ≠ w.heap.size + 3 by omega) (arrK .i64 16 (l16 R)); have b2 := blk_setRow b2 (arrK .i64 16 (l16 R)); have hbel := below_setRow hbel (show w.heap.size ≤ w.heap.size + 3 by omega) (arrK .i64 16 (l16 R))))
            go_roundw
            case rel => exact ⟨j, by omega, rfl, by assumption, by assumption, by rw [← HR.out]; assumption, by assumption⟩
            case measure => (first | (simp [intOf]; done) | (simp [intOf]; omega))
          · rw [h2] at htm
            have ha1 := radd_c N2 X hN2 HX.out
            rw [st1 h2] at ha1
            unfold A16 at ha1
            have HA1 := Lib.hid ha1
            clear st0 st1 h2 ha1 hN2
            go_wp2_with (first
              | (refine wpList_load_row rfl 83 (.tmp 5) rfl (w.heap.size + 3) rfl _ _ _ _ b2 Tryd.underlying83 rfl (by kernel_rfl) ?_)
              | (go_at_call 53; (with_reducible refine (HA0.out _).mono ?_); rintro e w1 ⟨rfl, hb1⟩; have b1 := blk_step b1 hb1; have b2 := blk_step b2 hb1; have b3 := blk_step b3 hb1; have hbel := below_step hbel hb1 off0.size; have sz1 := hbel.size)
              | (refine wpList_store_row rfl 83 (.tmp 5) (.tmp 21) rfl (w.heap.size + 3) _ rfl rfl 83 _ b2 (by kernel_rfl) (by kernel_rfl) (arrK_one _ _ _) ?_; have b1 := blk_setRow_other b1 (show w.heap.size + 2 ≠ w.heap.size + 3 by omega) (arrK .i64 16 (l16 N2)); have b3 := blk_setRow_other b3 (show w.heap.size ≠ w.heap.size + 3 by omega) (arrK .i64 16 (l16 N2)); have b2 := blk_setRow b2 (arrK .i64 16 (l16 N2)); have hbel := below_setRow hbel (show w.heap.size ≤ w.heap.size + 3 by omega) (arrK .i64 16 (l16 N2)))
              | (refine wpList_load_row rfl 83 (.tmp 2) rfl w.heap.size rfl _ _ _ _ b3 Tryd.underlying83 rfl (by kernel_rfl) ?_)
              | (go_at_call 53; (with_reducible refine (HA1.out _).mono ?_); rintro e w2 ⟨rfl, hb2⟩; have b1 := blk_step b1 hb2; have b2 := blk_step b2 hb2; have b3 := blk_step b3 hb2; have hbel := below_step hbel hb2 (by simp; exact sz1))
              | (refine wpList_store_row rfl 83 (.tmp 5) (.tmp 31) rfl (w.heap.size + 3) _ rfl rfl 83 _ b2 (by kernel_rfl) (by kernel_rfl) (arrK_one _ _ _) ?_; have b1 := blk_setRow_other b1 (show w.heap.size + 2 ≠ w.heap.size + 3 by omega) (arrK .i64 16 (l16 R)); have b3 := blk_setRow_other b3 (show w.heap.size ≠ w.heap.size + 3 by omega) (arrK .i64 16 (l16 R)); have b2 := blk_setRow b2 (arrK .i64 16 (l16 R)); have hbel := below_setRow hbel (show w.heap.size ≤ w.heap.size + 3 by omega) (arrK .i64 16 (l16 R))))
            go_roundw
            case rel => exact ⟨j, by omega, rfl, by assumption, by assumption, by rw [← HR.out]; assumption, by assumption⟩
            case measure => (first | (simp [intOf]; done) | (simp [intOf]; omega))
end Go.Proofs.YtefpoollmbmkfaaDoor.Sc

