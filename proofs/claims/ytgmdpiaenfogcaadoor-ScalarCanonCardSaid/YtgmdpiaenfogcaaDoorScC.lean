/- scalar.Bytes. -/
import Derived.Test.YtgmdpiaenfogcaaDoorScB
import Derived.Test.YtgmdpiaenfogcaaDoorArr
namespace Go.Proofs.YtgmdpiaenfogcaaDoor
open Go.RowKit

set_option maxHeartbeats 2000000 in
theorem bytes_c (V : Nat) (hV : V < 115792089237316195423570985008687907853269984665640564039457584007913129639936) (w : World) (hG : GL w) :
    Calls Tryd.prog 13 #[L4 V] w fun e w' => Ret (.agg (arrK .u8 32 (byt (V % LL)))) w w' e := by
  go_enter Tryd.func13, Tryd.ntmps13
  go_wp2_with fail
  refine (fold_c (lim V) _ _ _ _ _ ?_ (by omega) (fun j _ => lim_ok V j) ?_ (by simp only [World.size_alloc]; omega)).mono ?_
  · exact GL_below hG (B := w.heap.size) (((Below.refl _ _).alloc (Nat.le_refl _) _).alloc (by simp) _) hG.2.2.2.2
  · intro j hj
    have h4 : j = 0 ∨ j = 1 ∨ j = 2 ∨ j = 3 := by omega
    refine (blk_cell (blk_alloc (blk_new #[.int .u64 (lim V 0), .int .u64 (lim V 1), .int .u64 (lim V 2), .int .u64 (lim V 3)] 27 rfl) _) _).trans ?_
    rcases h4 with rfl | rfl | rfl | rfl <;> rfl
  rintro e w1 ⟨rfl, hb1⟩
  have b0 : Blk w1 w.heap.size #[.int .u64 (lim V 0), .int .u64 (lim V 1), .int .u64 (lim V 2), .int .u64 (lim V 3)] 27 := blk_step (blk_alloc (blk_new _ _ rfl) _) hb1
  have b1 : Blk w1 (w.heap.size + 1) (arrK .u8 32 fun _ => 0) 33 := blk_step (blk_new _ _ (by simp)) hb1
  have s1 := hb1.size
  simp only [World.size_alloc] at s1
  rw [wval_lim4 V hV]
  generalize hN : V % LL = N
  have HN := Lib.hid hN
  clear hN
  have c0 := blk_cell b0
  have f0 := blk_free b0
  go_wp2
  go_loopw [7] (fun i wr => ∃ k : Nat, k ≤ 32 ∧ i = .int .i64 k ∧ Below w.heap.size w wr ∧
      Blk wr w.heap.size #[.int .u64 (lim N 0), .int .u64 (lim N 1), .int .u64 (lim N 2), .int .u64 (lim N 3)] 27 ∧
      Blk wr (w.heap.size + 1) (arrK .u8 32 fun _ => 0) 33 ∧
      Blk wr w1.heap.size (arrK .u8 32 fun j => if j < k then byt N j else 0) 33)
    (fun i _ => (32 - intOf i).toNat)
  case atStart =>
    refine ⟨0, by omega, rfl, ?_, blk_alloc (blk_set4 b0 _ _ _ _) _, blk_alloc (blk_other4 b1 (by omega) _ _ _ _) _, ?_⟩
    · (repeat' (first | (with_reducible assumption) | (with_reducible exact Below.refl _ _) | (with_reducible refine Below.drew ?_) | (with_reducible refine Below.alloc ?_ ?_ _) | (with_reducible refine below_set ?_ ?_ _ _) | (with_reducible refine below_setRow ?_ ?_ _) | (with_reducible refine below_step ?_ (by assumption) ?_))) <;> (first | omega | ((try simp only [World.size_alloc, World.size_setCell, World.size_drew, size_setRow]); omega))
    · exact blk_new _ _ (by simp)
  case round =>
    obtain ⟨k, hk, rfl, hbel, hB0, hB1, hB3⟩ := hrel
    by_cases hk0 : k = 32
    · subst hk0
      go_wp2_with (first | (refine wpList_load_row rfl 33 (.tmp 3) rfl w1.heap.size rfl _ _ _ _ hB3 Tryd.underlying33 rfl (by kernel_rfl) ?_) | (refine wpList_store_row rfl 33 (.tmp 2) (.tmp 22) rfl (w.heap.size + 1) _ rfl rfl 33 _ hB1 (by kernel_rfl) (by kernel_rfl) (arrK_one _ _ _) ?_))
      refine bodyPost_ret (results_cell_row rfl _ _ (w.heap.size + 1) _ _ _ _ rfl (blk_setRow hB1 _) Tryd.underlying33 rfl (by kernel_rfl)) rfl ⟨?_, below_setRow hbel (by omega) _⟩
      rw [arrK_congr _ _ _ (byt N) (fun i hi => if_pos hi), HN.out]
    · obtain ⟨q, r, hr, rfl⟩ : ∃ q r, r < 8 ∧ k = 8 * q + r := ⟨k / 8, k % 8, by omega, by omega⟩
      have d1 : (8 * (q : Int) + (r : Int)) / 8 = (q : Int) := by omega
      have d2 : (8 * (q : Int) + (r : Int)) % 8 = (r : Int) := by omega
      have hq1 : (q : Int) < 4 := by omega
      have hr1 : (r : Int) < 8 := by omega
      have c0 := (blk_cell hB0 q).trans (show _ = some (.int .u64 (lim N q)) by (have : q = 0 ∨ q = 1 ∨ q = 2 ∨ q = 3 := by omega); rcases this with rfl | rfl | rfl | rfl <;> rfl)
      have c3 := blk_cell hB3 (8 * q + r)
      rw [arrK_get _ _ _ _ (by omega)] at c3
      have f3 := blk_free hB3
      go_wp2
      have sz := hbel.size
      have sz1 := blk_lt hB3
      go_roundw
      case rel =>
        refine ⟨8 * q + r + 1, by omega, by go_num, ?_, blk_other hB0 (by omega) _ _, blk_other hB1 (by omega) _ _, ?_⟩
        · (repeat' (first | (with_reducible assumption) | (with_reducible exact Below.refl _ _) | (with_reducible refine Below.drew ?_) | (with_reducible refine Below.alloc ?_ ?_ _) | (with_reducible refine below_set ?_ ?_ _ _) | (with_reducible refine below_setRow ?_ ?_ _) | (with_reducible refine below_step ?_ (by assumption) ?_))) <;> (first | omega | ((try simp only [World.size_alloc, World.size_setCell, World.size_drew, size_setRow]); omega))
        · have hs := blk_set hB3 (8 * q + r) (.int .u8 (lim N q / 2 ^ (8 * r) % 256))
          rw [arrK_set] at hs
          rw [arrK_congr _ _ _ _ (fun j hj => ?_)]
          · exact hs
          · have hby := lim_byt N (8 * q + r)
            rw [show (8 * q + r) / 8 = q by omega, show (8 * q + r) % 8 = r by omega] at hby
            unfold upd
            rw [hby]
            dsimp only
            by_cases h1 : j = 8 * q + r
            · subst h1; rw [if_pos (by omega), if_pos rfl]
            · rw [if_neg h1]
              by_cases h2 : j < 8 * q + r
              · rw [if_pos h2, if_pos (by omega)]
              · rw [if_neg h2, if_neg (by omega)]
      case measure => simp [intOf]; omega
end Go.Proofs.YtgmdpiaenfogcaaDoor
