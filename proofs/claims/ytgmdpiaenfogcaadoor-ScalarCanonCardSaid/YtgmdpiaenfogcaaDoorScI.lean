/- scalar.Of: bytes, the lowest first, modulo the order. Conditions: the bytes lie in memory; they are few. -/
import Derived.Test.YtgmdpiaenfogcaaDoorScH
namespace Go.Proofs.YtgmdpiaenfogcaaDoor
open Go.RowKit

theorem made_arr (k : IntKind) (n : Nat) : madeCells (Value.int k 0).cells n = arrK k n (fun _ => 0) := by
  apply Array.ext
  · simp [madeCells, arrK]
  · intro i h1 h2
    simp [madeCells, arrK, Value.cells, Nat.mod_one]
theorem wval_bval (bs : Nat → Int) (h : ∀ j, u8ok (bs j)) (k n : Nat) (hk : k ≤ 8 * n) : wval (lim (bval bs k)) n = bval bs k := by
  rw [wval_lim, Nat.mod_eq_of_lt]
  exact Nat.lt_of_lt_of_le (bval_lt bs h k) (Nat.pow_le_pow_right (by omega) (by omega))

set_option maxHeartbeats 4000000 in
theorem of_c (bs : Nat → Int) (hbs : ∀ j, u8ok (bs j)) (b off len cap : Nat) (w : World) (hG : GL w) (hlen : len ≤ 700)
    (hc : ∀ j, j < len → w.cell? ⟨b, off + j, none⟩ = some (.int .u8 (bs j))) (hb : b < w.heap.size) :
    Calls Tryd.prog 9 #[.slice (some ⟨b, off, none⟩) len cap] w fun e w' => Ret (L4 (bval bs len % LL)) w w' e := by
  have HG := Lib.hid hG
  have n0 := hG.2.2.2.2
  clear hG
  have HB := Lib.hid hbs
  have HC := Lib.hid hc
  clear hbs hc
  obtain ⟨n, hn⟩ : ∃ n, n = (len + 7) / 8 := ⟨_, rfl⟩
  have d0 : ((len : Int) + 7) / 8 = (n : Int) := by omega
  have hn8 : len ≤ 8 * n := by omega
  have hn100 : n ≤ 100 := by omega
  have hmk : ∀ W, (Instr.makeSlice 51 (.int .i64 (n : Int)) (.int .i64 (n : Int))).run Tryd.prog W = .ok (.slice (some ⟨W.heap.size, 0, none⟩) n n) (W.alloc (.cells (arrK .u64 n fun _ => 0) 25)) := by
    intro W
    obtain ⟨i, hi, hz, hs, hby⟩ := info_parts (show (Tryd.prog.info? 25).map (fun i => (i.zero, i.size, i.bytes)) = some (some (.int .u64 0), 1, 8) by kernel_rfl)
    have h := run_make (P := Tryd.prog) W 51 25 i (.int .u64 0) Tryd.underlying51 hi hz .i64 .i64 (n : Int) (n : Int) (by omega) (by omega) (by rw [hby]; omega) (by omega)
    rw [Int.toNat_natCast, hs, Nat.mul_one, made_arr] at h
    exact h
  have HN := Lib.hid hn
  clear hn
  go_enter Tryd.func9, Tryd.ntmps9
  go_wp2
  go_loopw [13] (fun ii wr => ∃ k : Nat, k ≤ len ∧ ii = .int .i64 k ∧ Below w.heap.size w wr ∧
      Blk wr w.heap.size #[.int .u64 0, .int .u64 0, .int .u64 0, .int .u64 0] 27 ∧ Blk wr (w.heap.size + 1) (arrK .u64 n (lim (bval bs k))) 25)
    (fun ii _ => (len - intOf ii).toNat)
  case atStart =>
    refine ⟨0, by omega, rfl, ?_, blk_alloc (blk_new _ _ rfl) _, ?_⟩
    · (repeat' (first | (with_reducible assumption) | (with_reducible exact Below.refl _ _) | (with_reducible refine Below.drew ?_) | (with_reducible refine Below.alloc ?_ ?_ _) | (with_reducible refine below_set ?_ ?_ _ _) | (with_reducible refine below_setRow ?_ ?_ _) | (with_reducible refine below_step ?_ (by assumption) ?_))) <;> (first | omega | ((try simp only [World.size_alloc, World.size_setCell, World.size_drew, size_setRow]); omega))
    · rw [show bval bs 0 = 0 from rfl, arrK_congr .u64 n (lim 0) (fun _ => 0) (fun i _ => lim_zero i)]
      exact blk_new _ _ (by simp)
  case round =>
    obtain ⟨k, hk, rfl, hbel, b1, b2⟩ := hrel
    have sz := hbel.size
    by_cases hkl : k = len
    · subst hkl
      have hs : ∀ j, u64ok (lim (bval bs k) j) := fun j => lim_ok _ j
      go_wp2_with (go_at_call 26; refine (fold_c (lim (bval bs k)) (w.heap.size + 1) 0 n n _ (GL_below HG.out hbel HG.out.2.2.2.2) hn100 (fun j _ => hs j) (fun j hj => (by rw [Nat.zero_add]; exact (blk_cell b2 j).trans (arrK_get _ _ _ _ hj))) (blk_lt b2)).mono ?_; rintro e w1 ⟨rfl, hb1⟩; have c1 := blk_cell (blk_step b1 hb1); have f1 := blk_free (blk_step b1 hb1))
      refine bodyPost_ret (v := L4 (wval (lim (bval bs k)) n % LL)) (by simp only [results, Tryd.results9]; go_simp) rfl ⟨?_, ?_⟩
      · rw [wval_bval bs HB.out k n hn8]
      · (repeat' (first | (with_reducible assumption) | (with_reducible exact Below.refl _ _) | (with_reducible refine Below.drew ?_) | (with_reducible refine Below.alloc ?_ ?_ _) | (with_reducible refine below_set ?_ ?_ _ _) | (with_reducible refine below_setRow ?_ ?_ _) | (with_reducible refine below_step ?_ (by assumption) ?_))) <;> (first | omega | ((try simp only [World.size_alloc, World.size_setCell, World.size_drew, size_setRow]); omega))
    · obtain ⟨q, r, hr, rfl⟩ : ∃ q r, r < 8 ∧ k = 8 * q + r := ⟨k / 8, k % 8, by omega, by omega⟩
      have hkl' : 8 * (q : Int) + (r : Int) < (len : Int) := by omega
      have cb := (hbel.cell (p := ⟨b, off + (8 * q + r), none⟩) hb).trans (HC.out (8 * q + r) (by omega))
      have d1 : IntKind.i64.wrap ((8 * (q : Int) + (r : Int)).tdiv 8) = (q : Int) := by rw [Int.tdiv_eq_ediv_of_nonneg (by omega), IntWalk.i64_in _ (by omega)]; omega
      have d2 : (8 * (q : Int) + (r : Int)).tmod 8 = (r : Int) := by rw [Int.tmod_eq_emod_of_nonneg (by omega)]; omega
      have d3 : IntKind.i64.wrap (8 * (r : Int)) = 8 * (r : Int) := IntWalk.i64_in _ (by omega)
      have d4 : IntKind.u64.wrap (bs (8 * q + r)) = bs (8 * q + r) := by have := HB.out (8 * q + r); unfold u8ok at this; rw [IntKind.wrap_u64]; omega
      have hq0 : (0 : Int) ≤ (q : Int) := by omega
      have hq1 : (q : Int) < (n : Int) := by have := HN.out; omega
      have hr0 : (0 : Int) ≤ (r : Int) := by omega
      have hr1 : (r : Int) < 8 := by omega
      have c2 := (blk_cell b2 q).trans (arrK_get _ _ _ _ (by omega))
      have f2 := blk_free b2
      have hs := fun v => blk_set b2 q v
      clear hkl
      go_wp2
      go_region
      go_wp2
      go_roundw
      case rel =>
        refine ⟨8 * q + r + 1, by omega, by go_num, ?_, blk_drew (blk_other b1 (by omega) _ _), ?_⟩
        · (repeat' (first | (with_reducible assumption) | (with_reducible exact Below.refl _ _) | (with_reducible refine Below.drew ?_) | (with_reducible refine Below.alloc ?_ ?_ _) | (with_reducible refine below_set ?_ ?_ _ _) | (with_reducible refine below_setRow ?_ ?_ _) | (with_reducible refine below_step ?_ (by assumption) ?_))) <;> (first | omega | ((try simp only [World.size_alloc, World.size_setCell, World.size_drew, size_setRow]); omega))
        · have := hs (.int .u64 (bits .or .u64 (lim (bval bs (8 * q + r)) q) (IntKind.wrap .u64 (bs (8 * q + r) * 2 ^ (8 * r)))))
          rw [word_set bs HB.out n q r hr] at this
          exact blk_drew this
      case measure => simp [intOf]; omega
end Go.Proofs.YtgmdpiaenfogcaaDoor
