/- scalar.Neg. -/
import Derived.Test.YtgmdpiaenfogcaaDoorScD
import Derived.Test.YtgmdpiaenfogcaaDoorEq
namespace Go.Proofs.YtgmdpiaenfogcaaDoor
open Go.RowKit

theorem lim_ext (A B : Nat) (hA : A < P256) (hB : B < P256) (h : ∀ i, i < 4 → lim A i = lim B i) : A = B := by
  rw [← val4_lim A hA, ← val4_lim B hB, h 0 (by omega), h 1 (by omega), h 2 (by omega), h 3 (by omega)]
theorem eq4 (A B : Nat) (hA : A < P256) (hB : B < P256) (w : World) : (Op.equalIn 10000 27 (.agg (c4 A)) (.agg (c4 B))).run Tryd.prog w = .ok (decide (A = B)) w := by
  have h := run_equalIn_arr (P := Tryd.prog) w 9998 27 25 4 .u64 (c4 A) (c4 B) (lim A) (lim B) Tryd.underlying27 Tryd.underlying25 (by kernel_rfl)
    (fun i hi => by have : i = 0 ∨ i = 1 ∨ i = 2 ∨ i = 3 := by omega
                    rcases this with rfl | rfl | rfl | rfl <;> rfl)
    (fun i hi => by have : i = 0 ∨ i = 1 ∨ i = 2 ∨ i = 3 := by omega
                    rcases this with rfl | rfl | rfl | rfl <;> rfl)
  rw [h]
  congr 1
  rw [Bool.eq_iff_iff, eqArr_true, decide_eq_true_iff]
  exact ⟨lim_ext A B hA hB, fun e i _ => by rw [e]⟩
theorem eq4z (A : Nat) (hA : A < P256) (w : World) : (Op.equalIn 10000 27 (.agg #[.int .u64 (lim A 0), .int .u64 (lim A 1), .int .u64 (lim A 2), .int .u64 (lim A 3)]) (.agg #[.int .u64 0, .int .u64 0, .int .u64 0, .int .u64 0])).run Tryd.prog w = .ok (decide (A = 0)) w :=
  eq4 A 0 hA (by decide) w

set_option maxHeartbeats 2000000 in
theorem neg_c (A : Nat) (hA : A < P256) (w : World) (hG : GL w) :
    Calls Tryd.prog 19 #[L4 A] w fun e w' => Ret (L4 ((LL - A % LL) % LL)) w w' e := by
  have HG := Lib.hid hG
  clear hG
  have hN : A % LL < LL := Nat.mod_lt _ (by decide)
  have hz := eq4z (A % LL) (lt_256 A)
  by_cases h0 : A % LL = 0
  all_goals
    simp only [h0, decide_true, decide_false] at hz
    have H0 := Lib.hid h0
    have HN := Lib.hid hN
    clear h0 hN
    go_enter Tryd.func19, Tryd.ntmps19
    go_wp2_with fail
    refine (fold4_c A w.heap.size hA _ (GL_alloc (GL_alloc HG.out _) _) (blk_alloc (blk_new _ _ rfl) _)).mono ?_
    rintro e w1 ⟨rfl, hb1⟩
    have b1 : Blk w1 w.heap.size (c4 A) 27 := blk_step (blk_alloc (blk_new _ _ rfl) _) hb1
    have b2 : Blk w1 (w.heap.size + 1) #[.int .u64 0, .int .u64 0, .int .u64 0, .int .u64 0] 27 := blk_step (blk_new _ _ (by simp)) hb1
    have hX : Below w.heap.size w w1 := below_step (by (repeat' (first | (with_reducible assumption) | (with_reducible exact Below.refl _ _) | (with_reducible refine Below.drew ?_) | (with_reducible refine Below.alloc ?_ ?_ _) | (with_reducible refine below_set ?_ ?_ _ _) | (with_reducible refine below_setRow ?_ ?_ _) | (with_reducible refine below_step ?_ (by assumption) ?_))) <;> (first | omega | ((try simp only [World.size_alloc, World.size_setCell, World.size_drew, size_setRow]); omega))) hb1 (by simp only [World.size_alloc]; omega)
    have s1 := hb1.size
    simp only [World.size_alloc] at s1
    clear hb1
    obtain ⟨g0, g1, g2, g3, g4⟩ := GL_below HG.out hX HG.out.2.2.2.2
    have n0 := HG.out.2.2.2.2
    have c1 := blk_cell b1
    have f1 := blk_free b1
    have c2 := blk_cell b2
    have f2 := blk_free b2
  · rw [show A % LL = 0 from H0.out]
    go_wp2
    refine bodyPost_ret (v := L4 0) (by simp only [results, Tryd.results19]; go_simp) rfl ⟨?_, ?_⟩
    · rw [show A % LL = 0 from H0.out, Nat.sub_zero, Nat.mod_self]
    · (repeat' (first | (with_reducible assumption) | (with_reducible exact Below.refl _ _) | (with_reducible refine Below.drew ?_) | (with_reducible refine Below.alloc ?_ ?_ _) | (with_reducible refine below_set ?_ ?_ _ _) | (with_reducible refine below_setRow ?_ ?_ _) | (with_reducible refine below_step ?_ (by assumption) ?_))) <;> (first | omega | ((try simp only [World.size_alloc, World.size_setCell, World.size_drew, size_setRow]); omega))
  · have b1' := blk_set4 b1 (.int .u64 (lim (A % LL) 0)) (.int .u64 (lim (A % LL) 1)) (.int .u64 (lim (A % LL) 2)) (.int .u64 (lim (A % LL) 3))
    have b2' := blk_other4 b2 (show w.heap.size + 1 ≠ w.heap.size by omega) (.int .u64 (lim (A % LL) 0)) (.int .u64 (lim (A % LL) 1)) (.int .u64 (lim (A % LL) 2)) (.int .u64 (lim (A % LL) 3))
    go_wp2_with (go_at_call 30; refine (Osub (A % LL) (lt_256 A) _).mono ?_; rintro e w2 ⟨rfl, hb2⟩; have z2 := blk_cell (blk_step b2' hb2); have t2 := blk_free (blk_step b2' hb2); have s2 := hb2.size; simp only [World.size_setCell] at s2; have n2 : w.heap.size + 1 < w2.heap.size := by omega)
    refine bodyPost_ret (v := L4 (dif4 LL (A % LL))) (by simp only [results, Tryd.results19]; go_simp) rfl ⟨?_, ?_⟩
    · have e1 : dif4 LL (A % LL) = (LL - A % LL) % LL := by
        have h1 := HN.out
        have h0 := H0.out
        generalize A % LL = N at *
        rw [Nat.mod_eq_of_lt (by omega)]
        unfold dif4 LL at *
        omega
      rw [e1]
    · (repeat' (first | (with_reducible assumption) | (with_reducible exact Below.refl _ _) | (with_reducible refine Below.drew ?_) | (with_reducible refine Below.alloc ?_ ?_ _) | (with_reducible refine below_set ?_ ?_ _ _) | (with_reducible refine below_setRow ?_ ?_ _) | (with_reducible refine below_step ?_ (by assumption) ?_))) <;> (first | omega | ((try simp only [World.size_alloc, World.size_setCell, World.size_drew, size_setRow]); omega))
end Go.Proofs.YtgmdpiaenfogcaaDoor
