/- custumalref06.Neg. Conditions: the number is below the order. -/
import Derived.Test.YtgmdpiaenfogcaaDoorRfB
namespace Go.Proofs.YtgmdpiaenfogcaaDoor
open Go.RowKit

theorem eq16z (X : Nat) (hX : X < P256) (w : World) : (Op.equalIn 10000 30 (.agg (arrK .i64 16 (l16 X))) (.agg #[.int .i64 0, .int .i64 0, .int .i64 0, .int .i64 0, .int .i64 0, .int .i64 0, .int .i64 0, .int .i64 0, .int .i64 0, .int .i64 0, .int .i64 0, .int .i64 0, .int .i64 0, .int .i64 0, .int .i64 0, .int .i64 0])).run Tryd.prog w = .ok (decide (X = 0)) w := by
  have h := run_equalIn_arr (P := Tryd.prog) w 9998 30 3 16 .i64 (arrK .i64 16 (l16 X)) (arrK .i64 16 (fun _ => 0)) (l16 X) (fun _ => 0) Tryd.underlying30 Tryd.underlying3 (by kernel_rfl)
    (fun i hi => arrK_get _ _ _ _ hi) (fun i hi => arrK_get _ _ _ _ hi)
  rw [show arrK .i64 16 (fun _ => 0) = #[.int .i64 0, .int .i64 0, .int .i64 0, .int .i64 0, .int .i64 0, .int .i64 0, .int .i64 0, .int .i64 0, .int .i64 0, .int .i64 0, .int .i64 0, .int .i64 0, .int .i64 0, .int .i64 0, .int .i64 0, .int .i64 0] by rfl] at h
  refine Eq.trans h ?_
  congr 1
  rw [Bool.eq_iff_iff, eqArr_true, decide_eq_true_iff]
  exact ⟨fun h => l16_ext hX (by decide) (fun i hi => by rw [h i hi]; simp [l16]), fun e i _ => by rw [e]; simp [l16]⟩

set_option maxHeartbeats 4000000 in
theorem rneg_c (X : Nat) (hX : X < LL) (w : World) : Calls Tryd.prog 22 #[A16 X] w fun e w' => Ret (A16 ((LL - X) % LL)) w w' e := by
  have hz := eq16z X (Nat.lt_trans hX LL_lt)
  by_cases h0 : X = 0
  · rw [decide_eq_true h0] at hz
    have H0 := Lib.hid h0
    clear h0 hX
    unfold A16
    go_enter Tryd.func22, Tryd.ntmps22
    go_wp2_with (first
      | (refine wpList_load_row rfl 30 (.tmp 1) rfl w.heap.size rfl _ _ _ _ (blk_alloc (blk_new (arrK .i64 16 (l16 X)) 30 (by simp)) _) Tryd.underlying30 rfl (by kernel_rfl) ?_)
      | (refine wpl_build rfl 30 _ rfl #[.int .i64 0, .int .i64 0, .int .i64 0, .int .i64 0, .int .i64 0, .int .i64 0, .int .i64 0, .int .i64 0, .int .i64 0, .int .i64 0, .int .i64 0, .int .i64 0, .int .i64 0, .int .i64 0, .int .i64 0, .int .i64 0] (by kernel_rfl) ?_)
      | (refine wpList_store_row rfl 30 (.tmp 2) (.tmp 10) rfl (w.heap.size + 1) _ rfl rfl 30 _ (blk_new _ _ (by simp)) (by kernel_rfl) (by kernel_rfl) (arrK_one _ _ _) ?_))
    refine bodyPost_ret (results_cell_row rfl _ _ (w.heap.size + 1) _ _ _ _ rfl (blk_setRow (blk_new _ _ (by simp)) _) Tryd.underlying30 rfl (by kernel_rfl)) rfl ⟨?_, ?_⟩
    · rw [show X = 0 from H0.out, Nat.sub_zero, Nat.mod_self]
    · refine below_setRow ?_ (by omega) _
      (repeat' (first | (with_reducible assumption) | (with_reducible exact Below.refl _ _) | (with_reducible refine Below.drew ?_) | (with_reducible refine Below.alloc ?_ ?_ _) | (with_reducible refine below_set ?_ ?_ _ _) | (with_reducible refine below_setRow ?_ ?_ _) | (with_reducible refine below_step ?_ (by assumption) ?_))) <;> (first | omega | ((try simp only [World.size_alloc, World.size_setCell, World.size_drew, size_setRow]); omega))
  · rw [decide_eq_false h0] at hz
    have hD : (LL - X) % LL = LL - X := Nat.mod_eq_of_lt (by unfold LL at *; omega)
    rw [hD]
    obtain ⟨D, hDe⟩ : ∃ D, D = LL - X := ⟨_, rfl⟩
    rw [← hDe]
    have HDe := Lib.hid hDe
    have HX := Lib.hid hX
    clear hX hD hDe h0
    unfold A16
    go_enter Tryd.func22, Tryd.ntmps22
    go_wp2_with (first
      | (refine wpList_load_row rfl 30 (.tmp 1) rfl w.heap.size rfl _ _ _ _ (blk_alloc (blk_new (arrK .i64 16 (l16 X)) 30 (by simp)) _) Tryd.underlying30 rfl (by kernel_rfl) ?_)
      | (refine wpl_build rfl 30 _ rfl #[.int .i64 0, .int .i64 0, .int .i64 0, .int .i64 0, .int .i64 0, .int .i64 0, .int .i64 0, .int .i64 0, .int .i64 0, .int .i64 0, .int .i64 0, .int .i64 0, .int .i64 0, .int .i64 0, .int .i64 0, .int .i64 0] (by kernel_rfl) ?_)
      | (go_at_call 24; refine (rL_c _).mono ?_; rintro e w1 ⟨rfl, hb1⟩; unfold A16
         have b1 : Blk w1 w.heap.size (arrK .i64 16 (l16 X)) 30 := blk_step (blk_alloc (blk_new _ _ rfl) _) hb1
         have b2 : Blk w1 (w.heap.size + 1) (arrK .i64 16 (fun _ => 0)) 30 := blk_step (blk_new _ _ (by simp)) hb1
         have hbel1 : Below w.heap.size w w1 := below_step (((Below.refl _ _).alloc (Nat.le_refl _) _).alloc (by simp) _) hb1 (by simp only [World.size_alloc]; omega))
      | (refine wpList_store_row rfl 30 (.tmp 3) (.tmp 11) rfl w1.heap.size _ rfl rfl 30 _ (blk_new _ _ rfl) (by kernel_rfl) (by kernel_rfl) (arrK_one _ _ _) ?_))
    have sb := blk_lt b2
    refine wp_world (fun W => Below w.heap.size w W ∧ Blk W w.heap.size (arrK .i64 16 (l16 X)) 30 ∧ Blk W (w.heap.size + 1) (arrK .i64 16 (fun _ => 0)) 30 ∧ Blk W w1.heap.size (arrK .i64 16 (l16 LL)) 30)
      ⟨below_setRow (hbel1.alloc hbel1.size _) hbel1.size _, blk_setRow_other (blk_alloc b1 _) (by omega) _, blk_setRow_other (blk_alloc b2 _) (by omega) _, blk_setRow (blk_new _ _ rfl) _⟩ ?_
    rintro w4 ⟨hbel4, c1, c3, c4⟩
    go_wp2
    go_loopw [4, 5] (fun oo ii wr => ∃ k : Nat, k ≤ 16 ∧ ii = .int .i64 k ∧ oo = .int .i64 (bor16 LL X k) ∧ Below w.heap.size w wr ∧
        Blk wr w.heap.size (arrK .i64 16 (l16 X)) 30 ∧ Blk wr (w.heap.size + 1) (arrK .i64 16 (fun _ => 0)) 30 ∧ Blk wr w1.heap.size (arrK .i64 16 (mixF k (l16 D) (l16 LL))) 30)
      (fun _ ii _ => (16 - intOf ii).toNat)
    case atStart => exact ⟨0, by omega, rfl, by rw [bor16_zero]; rfl, hbel4, c1, c3, by rw [mixF_zero]; exact c4⟩
    case round =>
      clear hbel4 c1 c3 c4
      obtain ⟨k, hk, rfl, rfl, hbel, b1, b2, b3⟩ := hrel
      by_cases hk16 : k = 16
      · subst hk16
        rw [mixF_all] at b3
        go_wp2_with (first
          | (refine wpList_load_row rfl 30 (.tmp 3) rfl w1.heap.size rfl _ _ _ _ b3 Tryd.underlying30 rfl (by kernel_rfl) ?_)
          | (refine wpList_store_row rfl 30 (.tmp 2) (.tmp 32) rfl (w.heap.size + 1) _ rfl rfl 30 _ b2 (by kernel_rfl) (by kernel_rfl) (arrK_one _ _ _) ?_))
        refine bodyPost_ret (results_cell_row rfl _ _ (w.heap.size + 1) _ _ _ _ rfl (blk_setRow b2 _) Tryd.underlying30 rfl (by kernel_rfl)) rfl ⟨rfl, below_setRow hbel (by omega) _⟩
      · have hk' : (k : Int) < 16 := by omega
        have c3 := (blk_cell b3 k).trans (arrK_get _ _ _ _ (by omega))
        rw [mixF_at] at c3
        have c1 := (blk_cell b1 k).trans (arrK_get _ _ _ _ (by omega))
        have f3 := blk_free b3
        have hp := sub16_parts LL X k (Nat.le_of_lt HX.out)
        rw [← HDe.out] at hp
        have HSB := Lib.hid sb
        obtain ⟨d1, ⟨hb, d2, d3⟩ | ⟨hb, e, d2, d3, d4⟩⟩ := hp
        · clear hk16
          go_wp2
          go_region
          go_wp2
          go_roundw
          case rel =>
            have hs := blk_set b3 k (.int .i64 (l16 D k))
            rw [mixF_set] at hs
            refine ⟨k + 1, by omega, by go_num, by rw [hb]; rfl, ?_, blk_drew (blk_other b1 (by omega) _ _), blk_drew (blk_other b2 (by omega) _ _), blk_drew hs⟩
            exact (below_set hbel (by omega) _ _).drew
          case measure => simp [intOf]; omega
        · clear hk16
          go_wp2
          go_region
          go_wp2
          go_roundw
          case rel =>
            have hs := blk_set b3 k (.int .i64 (l16 D k))
            rw [mixF_set] at hs
            refine ⟨k + 1, by omega, by go_num, by rw [hb]; rfl, ?_, blk_drew (blk_other b1 (by omega) _ _), blk_drew (blk_other b2 (by omega) _ _), blk_drew hs⟩
            exact (below_set hbel (by omega) _ _).drew
          case measure => simp [intOf]; omega
end Go.Proofs.YtgmdpiaenfogcaaDoor
