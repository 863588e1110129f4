/- custumalref06.Of, the walk. Conditions: the text is the bytes of a number. -/
import Derived.Test.YtefpoollmbmkfaaDoorRb
set_option linter.unusedSimpArgs false
set_option linter.unusedVariables false
namespace Go.Proofs.YtefpoollmbmkfaaDoor.Sc
set_option maxHeartbeats 4000000
set_option maxRecDepth 100000
open Go.RowKit

theorem rof_c (n T : Nat) (hT : T < 2 ^ (8 * n)) (hn : n ≤ 700) (w : World) :
    Calls Tryd.prog 51 #[Q6i n (Q6 T)] w fun e w' => Ret (A16 (T % LL)) w w' e := by
  have hT0 : T / 2 ^ (8 * n) % LL = 0 := by rw [Nat.div_eq_of_lt hT]; rfl
  have hix := fun i (hi : i < n) (W : World) => Q5n (P := Tryd.prog) 9 Tryd.underlying9 n (Q6 T) (fun j _ => J4p T j) i hi W
  have hsz := Q78 n (Q6 T)
  unfold Q6i
  obtain ⟨S, hS⟩ : ∃ S, S = strOfNums ((List.range n).map (Q6 T)) := ⟨_, rfl⟩
  rw [← hS] at hix hsz ⊢
  have HT0 := Lib.hid hT0
  have HIX := Lib.hid hix
  clear hS hT hT0 hix
  go_enter Tryd.func51, Tryd.ntmps51
  go_wp2
  go_loopw [4, 5] (fun ii _ wr => ∃ m : Nat, m ≤ n ∧ ii = .int .i64 ((m : Int) - 1) ∧ Below w.heap.size w wr ∧
      Blk wr w.heap.size (J1 .i64 16 (fun _ => 0)) 83 ∧ Blk wr (w.heap.size + 1) (J1 .i64 16 (Q2 (T / 2 ^ (8 * m) % LL))) 83)
    (fun ii _ _ => (intOf ii + 1).toNat)
  case atStart =>
    refine ⟨n, Nat.le_refl _, rfl, ?_, V3 (K0 _ _ rfl) _, ?_⟩
    · exact bz
    · rw [HT0.out, Z1x]; exact K0 _ _ (by simp)
  case round =>
    obtain ⟨m, hm, rfl, hbel, b1, b2⟩ := hrel
    by_cases hm0 : m = 0
    · subst hm0
      go_wp2_with (first
        | (refine wpList_load_row rfl 83 (.tmp 3) rfl (w.heap.size + 1) rfl _ _ _ _ b2 Tryd.underlying83 rfl (by kernel_rfl) ?_)
        | (refine wpList_store_row rfl 83 (.tmp 2) (.tmp 30) rfl w.heap.size _ rfl rfl 83 _ b1 (by kernel_rfl) (by kernel_rfl) (Y7 _ _ _) ?_))
      refine bodyPost_ret (results_cell_row rfl _ _ w.heap.size _ _ _ _ rfl (V0 b1 _) Tryd.underlying83 rfl (by kernel_rfl)) rfl ⟨?_, Y5 hbel (by omega) _⟩
      rw [Nat.mul_zero, Nat.pow_zero, Nat.div_one]; rfl
    · obtain ⟨i, rfl⟩ : ∃ i, m = i + 1 := ⟨m - 1, by omega⟩
      have e1 : ((i + 1 : Nat) : Int) - 1 = (i : Int) := by omega
      rw [e1]
      clear hm0 e1
      have hi := HIX.out i (by omega)
      have HI := Lib.hid hi
      clear hi
      go_wp2
      go_loopw [5] (fun kk wr => ∃ k : Nat, k ≤ 8 ∧ kk = .int .i64 ((k : Int) - 1) ∧ Below w.heap.size w wr ∧
          Blk wr w.heap.size (J1 .i64 16 (fun _ => 0)) 83 ∧ Blk wr (w.heap.size + 1) (J1 .i64 16 (Q2 (T / 2 ^ (8 * i + k) % LL))) 83)
        (fun kk _ => (intOf kk + 1).toNat)
      case atStart => exact ⟨8, Nat.le_refl _, rfl, hbel, b1, b2⟩
      case round =>
        clear hbel b1 b2
        obtain ⟨k, hk, rfl, hbel, b1, b2⟩ := hrel
        by_cases hk0 : k = 0
        · subst hk0
          go_wp2
          go_roundw
          case rel => exact ⟨i, by omega, rfl, hbel, b1, b2⟩
          case measure => (first | (simp [intOf]; done) | (simp [intOf]; omega))
        · obtain ⟨j, rfl⟩ : ∃ j, k = j + 1 := ⟨k - 1, by omega⟩
          have e1 : ((j + 1 : Nat) : Int) - 1 = (j : Int) := by omega
          rw [e1]
          clear hk0 e1
          have hi := HI.out
          have hj8 : (j : Int) < 8 := by omega
          have hi0 : (0 : Int) ≤ (i : Int) := by omega
          have off0.size := hbel.size
          have hbit := Y99 T i j (by omega)
          obtain ⟨st0, st1⟩ := Z6n T (8 * i + j)
          have hU := Nat.mod_lt (T / 2 ^ (8 * i + (j + 1))) (show 0 < LL by decide)
          have HU := Lib.hid hU
          clear hU
          obtain ⟨N, hN⟩ : ∃ N, N = T / 2 ^ (8 * i + (j + 1)) % LL := ⟨_, rfl⟩
          rw [show 8 * i + j + 1 = 8 * i + (j + 1) by omega, ← hN] at st0 st1
          rw [← hN] at b2 HU
          clear hN
          have htm : (Q6 T i / 2 ^ j).tmod 2 = ((T / 2 ^ (8 * i + j) % 2 : Nat) : Int) := by
            rw [← hbit]
            exact Int.tmod_eq_emod_of_nonneg (Int.ediv_nonneg (J4p T i).1 (Int.le_of_lt (Int.pow_pos (by decide))))
          clear hbit
          have ha0 := Y0i N N HU.out HU.out
          have hN2 := Nat.mod_lt (N + N) (show 0 < LL by decide)
          obtain ⟨N2, hN2e⟩ : ∃ N2, N2 = (N + N) % LL := ⟨_, rfl⟩
          obtain ⟨R, hR⟩ : ∃ R, R = T / 2 ^ (8 * i + j) % LL := ⟨_, rfl⟩
          rw [← hN2e] at ha0 st0 st1 hN2
          rw [← hR] at st0 st1
          have HR := Lib.hid hR
          clear hR hN2e
          unfold A16 at ha0
          have HA0 := Lib.hid ha0
          clear ha0
          rcases Nat.mod_two_eq_zero_or_one (T / 2 ^ (8 * i + j)) with h2 | h2
          · rw [h2] at htm
            rw [st0 h2] at HA0
            clear st0 st1 h2 hN2
            go_wp2_with (first
              | (refine wpList_load_row rfl 83 (.tmp 3) rfl (w.heap.size + 1) rfl _ _ _ _ b2 Tryd.underlying83 rfl (by kernel_rfl) ?_)
              | (go_at_call 53; (with_reducible refine (HA0.out _).mono ?_); rintro e w1 ⟨rfl, hb1⟩; have b1 := J2 b1 hb1; have b2 := J2 b2 hb1; have hbel := Z5 hbel hb1 off0.size; have sz1 := hbel.size)
              | (refine wpList_store_row rfl 83 (.tmp 3) (.tmp 19) rfl (w.heap.size + 1) _ rfl rfl 83 _ b2 (by kernel_rfl) (by kernel_rfl) (Y7 _ _ _) ?_; have b1 := J4 b1 (show w.heap.size ≠ w.heap.size + 1 by omega) (J1 .i64 16 (Q2 R)); have b2 := V0 b2 (J1 .i64 16 (Q2 R)); have hbel := Y5 hbel (show w.heap.size ≤ w.heap.size + 1 by omega) (J1 .i64 16 (Q2 R))))
            go_roundw
            case rel => exact ⟨j, by omega, rfl, by assumption, by assumption, by rw [← HR.out]; assumption⟩
            case measure => (first | (simp [intOf]; done) | (simp [intOf]; omega))
          · rw [h2] at htm
            have ha1 := Y0i N2 1 hN2 (by decide)
            rw [st1 h2, Y53] at ha1
            unfold A16 at ha1
            have HA1 := Lib.hid ha1
            clear st0 st1 h2 ha1 hN2
            go_wp2_with (first
              | (refine wpList_load_row rfl 83 (.tmp 3) rfl (w.heap.size + 1) rfl _ _ _ _ b2 Tryd.underlying83 rfl (by kernel_rfl) ?_)
              | (go_at_call 53; (with_reducible refine (HA0.out _).mono ?_); rintro e w1 ⟨rfl, hb1⟩; have b1 := J2 b1 hb1; have b2 := J2 b2 hb1; have hbel := Z5 hbel hb1 off0.size; have sz1 := hbel.size)
              | (refine wpList_store_row rfl 83 (.tmp 3) (.tmp 19) rfl (w.heap.size + 1) _ rfl rfl 83 _ b2 (by kernel_rfl) (by kernel_rfl) (Y7 _ _ _) ?_; have b1 := J4 b1 (show w.heap.size ≠ w.heap.size + 1 by omega) (J1 .i64 16 (Q2 N2)); have b2 := V0 b2 (J1 .i64 16 (Q2 N2)); have hbel := Y5 hbel (show w.heap.size ≤ w.heap.size + 1 by omega) (J1 .i64 16 (Q2 N2)))
              | (refine Q6y rfl 83 _ rfl #[.int .i64 1, .int .i64 0, .int .i64 0, .int .i64 0, .int .i64 0, .int .i64 0, .int .i64 0, .int .i64 0, .int .i64 0, .int .i64 0, .int .i64 0, .int .i64 0, .int .i64 0, .int .i64 0, .int .i64 0, .int .i64 0] (by kernel_rfl) ?_)
              | (go_at_call 53; (with_reducible refine (HA1.out _).mono ?_); rintro e w2 ⟨rfl, hb2⟩; have b1 := J2 b1 hb2; have b2 := J2 b2 hb2; have hbel := Z5 hbel hb2 (by simp; exact sz1))
              | (refine wpList_store_row rfl 83 (.tmp 3) (.tmp 29) rfl (w.heap.size + 1) _ rfl rfl 83 _ b2 (by kernel_rfl) (by kernel_rfl) (Y7 _ _ _) ?_; have b1 := J4 b1 (show w.heap.size ≠ w.heap.size + 1 by omega) (J1 .i64 16 (Q2 R)); have b2 := V0 b2 (J1 .i64 16 (Q2 R)); have hbel := Y5 hbel (show w.heap.size ≤ w.heap.size + 1 by omega) (J1 .i64 16 (Q2 R))))
            go_roundw
            case rel => exact ⟨j, by omega, rfl, by assumption, by assumption, by rw [← HR.out]; assumption⟩
            case measure => (first | (simp [intOf]; done) | (simp [intOf]; omega))
end Go.Proofs.YtefpoollmbmkfaaDoor.Sc
