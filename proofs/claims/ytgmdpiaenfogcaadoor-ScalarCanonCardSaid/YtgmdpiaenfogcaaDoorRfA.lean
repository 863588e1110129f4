/- custumalref06.L, less and Add. Conditions: the parts are parts of 16 bits. -/
import Derived.Test.YtgmdpiaenfogcaaDoorScA
import Derived.Test.YtgmdpiaenfogcaaDoorLim16
import Derived.Test.YtgmdpiaenfogcaaDoorEq
namespace Go.Proofs.YtgmdpiaenfogcaaDoor
open Go.RowKit

theorem l16_LL : (List.range 16).map (l16 LL) = [54253, 23797, 25370, 22546, 40150, 41719, 63966, 5342, 0, 0, 0, 0, 0, 0, 0, 4096] := by decide +kernel
theorem A16_LL : A16 LL = .agg #[.int .i64 54253, .int .i64 23797, .int .i64 25370, .int .i64 22546, .int .i64 40150, .int .i64 41719, .int .i64 63966, .int .i64 5342, .int .i64 0, .int .i64 0, .int .i64 0, .int .i64 0, .int .i64 0, .int .i64 0, .int .i64 0, .int .i64 4096] := by
  unfold A16; rw [arrK_map, l16_LL]; rfl
theorem rL_c (w : World) : Calls Tryd.prog 24 #[] w fun e w' => Ret (A16 LL) w w' e := by
  rw [A16_LL]
  go_enter Tryd.func24, Tryd.ntmps24
  go_wp2_with (first | (refine wpl_build rfl 30 _ rfl #[.int .i64 54253, .int .i64 23797, .int .i64 25370, .int .i64 22546, .int .i64 40150, .int .i64 41719, .int .i64 63966, .int .i64 5342, .int .i64 0, .int .i64 0, .int .i64 0, .int .i64 0, .int .i64 0, .int .i64 0, .int .i64 0, .int .i64 4096] (by kernel_rfl) ?_) | (refine wpList_store_row rfl 30 (.tmp 0) (.tmp 1) rfl w.heap.size _ rfl rfl 30 _ (blk_new _ _ rfl) (by kernel_rfl) (by kernel_rfl) (by rfl) ?_))
  refine bodyPost_ret (results_cell_row rfl _ _ w.heap.size _ _ _ _ rfl (blk_new _ _ rfl) Tryd.underlying30 rfl (by kernel_rfl)) rfl ⟨rfl, ?_⟩
  (repeat' (first | (with_reducible assumption) | (with_reducible exact Below.refl _ _) | (with_reducible refine Below.drew ?_) | (with_reducible refine Below.alloc ?_ ?_ _) | (with_reducible refine below_set ?_ ?_ _ _) | (with_reducible refine below_setRow ?_ ?_ _) | (with_reducible refine below_step ?_ (by assumption) ?_))) <;> (first | omega | ((try simp only [World.size_alloc, World.size_setCell, World.size_drew, size_setRow]); omega))

set_option maxHeartbeats 1000000 in
theorem rless_c (X Y : Nat) (hX : X < P256) (hY : Y < P256) (w : World) :
    Calls Tryd.prog 31 #[A16 X, A16 Y] w fun e w' => Ret (.bool (decide (X < Y))) w w' e := by
  unfold A16
  go_enter Tryd.func31, Tryd.ntmps31
  go_wp2
  go_loopw [5] (fun ii wr => ∃ k : Nat, k ≤ 16 ∧ ii = .int .i64 ((k : Int) - 1) ∧ Below w.heap.size w wr ∧
      Blk wr w.heap.size (arrK .i64 16 (l16 X)) 30 ∧ Blk wr (w.heap.size + 1) (arrK .i64 16 (l16 Y)) 30 ∧ Hid (∀ i, k ≤ i → i < 16 → l16 X i = l16 Y i))
    (fun ii _ => (intOf ii + 1).toNat)
  case atStart =>
    refine ⟨16, Nat.le_refl _, rfl, ?_, blk_alloc (blk_new _ _ rfl) _, blk_new _ _ (by simp), fun i h1 h2 => by omega⟩
    (repeat' (first | (with_reducible assumption) | (with_reducible exact Below.refl _ _) | (with_reducible refine Below.drew ?_) | (with_reducible refine Below.alloc ?_ ?_ _) | (with_reducible refine below_set ?_ ?_ _ _) | (with_reducible refine below_setRow ?_ ?_ _) | (with_reducible refine below_step ?_ (by assumption) ?_))) <;> (first | omega | ((try simp only [World.size_alloc, World.size_setCell, World.size_drew, size_setRow]); omega))
  case round =>
    obtain ⟨k, hk, rfl, hbel, b2, b3, HE⟩ := hrel
    by_cases hk0 : k = 0
    · subst hk0
      go_wp2
      go_ret
      refine ⟨?_, hbel⟩
      have : X = Y := l16_ext hX hY (fun i hi => HE i (Nat.zero_le _) hi)
      rw [this, show decide (Y < Y) = false by simp]; rfl
    · obtain ⟨m, rfl⟩ : ∃ m, k = m + 1 := ⟨k - 1, by omega⟩
      have e1 : ((m + 1 : Nat) : Int) - 1 = (m : Int) := by omega
      rw [e1]
      clear hk0 e1
      have hm : (m : Int) < 16 := by omega
      have c2 := (blk_cell b2 m).trans (arrK_get _ _ _ _ (by omega))
      have c3 := (blk_cell b3 m).trans (arrK_get _ _ _ _ (by omega))
      by_cases he : l16 X m = l16 Y m
      · have HE' : Hid (∀ i, m ≤ i → i < 16 → l16 X i = l16 Y i) := fun i h1 h2 => by
          by_cases h : i = m
          · subst h; exact he
          · exact HE i (by omega) h2
        have hb : (l16 X m != l16 Y m) = false := by simp [he]
        clear he
        go_wp2
        go_region
        go_wp2
        go_roundw
        case rel => exact ⟨m, by omega, rfl, hbel.drew, blk_drew b2, blk_drew b3, HE'⟩
        case measure => (first | (simp [intOf]; done) | (simp [intOf]; omega))
      · have hb : (l16 X m != l16 Y m) = true := by simp [he]
        have hv : decide (X < Y) = decide (l16 X m < l16 Y m) := by
          rw [Bool.eq_iff_iff, decide_eq_true_iff, decide_eq_true_iff]
          constructor
          · intro h
            exact Int.lt_of_not_ge fun hge => by
              have := lt_of_parts m (by omega) hY hX (fun i h1 h2 => (HE i (by omega) h2).symm) (by omega)
              omega
          · exact lt_of_parts m (by omega) hX hY (fun i h1 h2 => HE i (by omega) h2)
        have HV := Lib.hid hv
        clear he hv
        go_wp2
        go_region
        go_wp2
        go_region
        go_wp2
        go_ret
        refine ⟨by rw [HV.out]; rfl, ?_⟩
        (repeat' (first | (with_reducible assumption) | (with_reducible exact Below.refl _ _) | (with_reducible refine Below.drew ?_) | (with_reducible refine Below.alloc ?_ ?_ _) | (with_reducible refine below_set ?_ ?_ _ _) | (with_reducible refine below_setRow ?_ ?_ _) | (with_reducible refine below_step ?_ (by assumption) ?_))) <;> (first | omega | ((try simp only [World.size_alloc, World.size_setCell, World.size_drew, size_setRow]); omega))
end Go.Proofs.YtgmdpiaenfogcaaDoor
