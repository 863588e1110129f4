/- scalar.Clamp: 32 bytes, the lowest three bits struck, the two highest set to 01. Conditions: they are bytes. -/
import Derived.Test.YtgmdpiaenfogcaaDoorScG
import Derived.Deep.DeepCutAuto
namespace Go.Proofs.YtgmdpiaenfogcaaDoor
open Go.RowKit

def clampF (bs : Nat → Int) : Nat → Int := fun j => if j = 0 then bs 0 - bs 0 % 8 else if j = 31 then bs 31 % 64 + 64 else bs j
theorem andnot7 (x : Int) (h : u8ok x) : bits .andNot .u8 x 7 = x - x % 8 := by
  obtain ⟨h0, h1⟩ := h
  obtain ⟨n, rfl⟩ := Int.eq_ofNat_of_zero_le h0
  have key : ∀ n : Nat, n < 256 → bits .andNot .u8 (n : Int) 7 = (n : Int) - (n : Int) % 8 := by decide +kernel
  exact key n (by omega)
theorem and63or64 (x : Int) (h : u8ok x) : bits .or .u8 (bits .and .u8 x 63) 64 = x % 64 + 64 := by
  obtain ⟨h0, h1⟩ := h
  obtain ⟨n, rfl⟩ := Int.eq_ofNat_of_zero_le h0
  have key : ∀ n : Nat, n < 256 → bits .or .u8 (bits .and .u8 (n : Int) 63) 64 = (n : Int) % 64 + 64 := by decide +kernel
  exact key n (by omega)
theorem clamp_arr (bs : Nat → Int) : ((arrK .u8 32 bs).setIfInBounds 0 (.int .u8 (bs 0 - bs 0 % 8))).setIfInBounds 31 (.int .u8 (bs 31 % 64 + 64)) = arrK .u8 32 (clampF bs) := by
  rw [arrK_set, arrK_set]
  apply arrK_congr
  intro j _
  unfold upd clampF
  by_cases h : j = 31
  · subst h; rfl
  · by_cases h2 : j = 0
    · subst h2; rfl
    · simp [h, h2]

set_option maxHeartbeats 1000000 in
theorem clamp_c (bs : Nat → Int) (hbs : ∀ j, u8ok (bs j)) (w : World) :
    Calls Tryd.prog 14 #[.agg (arrK .u8 32 bs)] w fun e w' => Ret (.agg (arrK .u8 32 (clampF bs))) w w' e := by
  have a0 := andnot7 (bs 0) (hbs 0)
  have a1 := and63or64 (bs 31) (hbs 31)
  clear hbs
  go_enter Tryd.func14, Tryd.ntmps14
  go_upto_region 1 with fail
  refine wp_world (fun W => Below w.heap.size w W ∧ Blk W w.heap.size (arrK .u8 32 bs) 33 ∧ Blk W (w.heap.size + 1) (arrK .u8 32 (fun _ => 0)) 33) ⟨(by (repeat' (first | (with_reducible assumption) | (with_reducible exact Below.refl _ _) | (with_reducible refine Below.drew ?_) | (with_reducible refine Below.alloc ?_ ?_ _) | (with_reducible refine below_set ?_ ?_ _ _) | (with_reducible refine below_setRow ?_ ?_ _) | (with_reducible refine below_step ?_ (by assumption) ?_))) <;> (first | omega | ((try simp only [World.size_alloc, World.size_setCell, World.size_drew, size_setRow]); omega))), blk_alloc (blk_new _ _ rfl) _, blk_new _ _ (by simp)⟩ ?_
  rintro W ⟨hbel, b1, b2⟩
  have c0 := (blk_cell b1 0).trans (arrK_get _ _ _ _ (by omega))
  have c31 := (blk_cell b1 31).trans (arrK_get _ _ _ _ (by omega))
  have f1 := blk_free b1
  have hs := blk_set (blk_set b1 0 (.int .u8 (bs 0 - bs 0 % 8))) 31 (.int .u8 (bs 31 % 64 + 64))
  rw [clamp_arr] at hs
  have hs2 := blk_other (blk_other b2 (show w.heap.size + 1 ≠ w.heap.size by omega) 0 (.int .u8 (bs 0 - bs 0 % 8))) (show w.heap.size + 1 ≠ w.heap.size by omega) 31 (.int .u8 (bs 31 % 64 + 64))
  have HS := Lib.hid hs
  have HS2 := Lib.hid hs2
  clear hs hs2
  go_wp2_with (first
    | (refine wpList_load_row rfl 33 (.tmp 1) rfl w.heap.size rfl _ _ _ _ HS.out Tryd.underlying33 rfl (by kernel_rfl) ?_)
    | (refine wpList_store_row rfl 33 (.tmp 2) (.tmp 12) rfl (w.heap.size + 1) _ rfl rfl 33 _ HS2.out (by kernel_rfl) (by kernel_rfl) (arrK_one _ _ _) ?_))
  refine bodyPost_ret (results_cell_row rfl _ _ (w.heap.size + 1) _ _ _ _ rfl (blk_setRow HS2.out _) Tryd.underlying33 rfl (by kernel_rfl)) rfl ⟨rfl, below_setRow ?_ (by omega) _⟩
  exact below_set (below_set hbel (by omega) _ _) (by omega) _ _
end Go.Proofs.YtgmdpiaenfogcaaDoor
