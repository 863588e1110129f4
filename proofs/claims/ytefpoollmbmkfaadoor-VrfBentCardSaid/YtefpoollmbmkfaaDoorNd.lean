/- scalar.Of: bytes, the lowest first, modulo the order. Conditions: the bytes lie in memory; they are few. scalar.Clamp: 32 bytes, the lowest three bits struck, the two highest set to 01. Conditions: they are bytes. -/
import Derived.Test.YtefpoollmbmkfaaDoorNc
import Derived.Deep.DeepCutAuto
set_option linter.unusedSimpArgs false
set_option linter.unusedVariables false
namespace Go.Proofs.YtefpoollmbmkfaaDoor.Sc
set_option maxHeartbeats 4000000
set_option maxRecDepth 100000
open Go.RowKit

theorem Y0g (k : IntKind) (n : Nat) : madeCells (Value.int k 0).cells n = J1 k n (fun _ => 0) := by
  apply Array.ext
  · simp [madeCells, J1]
  · intro i h1 h2
    simp [madeCells, J1, Value.cells, Nat.mod_one]
theorem Z6j (bs : Nat → Int) (h : ∀ j, J4m (bs j)) (k n : Nat) (hk : k ≤ 8 * n) : J2u (lim (J1f bs k)) n = J1f bs k := by
  rw [J9u, Nat.mod_eq_of_lt]
  exact Nat.lt_of_lt_of_le (J5v bs h k) (Nat.pow_le_pow_right (by omega) (by omega))

theorem of_c (bs : Nat → Int) (hbs : ∀ j, J4m (bs j)) (b off len cap : Nat) (w : World) (hG : GL w) (hlen : len ≤ 700)
    (hc : ∀ j, j < len → w.cell? ⟨b, off + j, none⟩ = some (.int .u8 (bs j))) (hb : b < w.heap.size) :
    Calls Tryd.prog 34 #[.slice (some ⟨b, off, none⟩) len cap] w fun e w' => Ret (L4 (J1f bs len % LL)) w w' e := by
  have HG := Lib.hid hG
  have n0 := hG.2.2.2.2
  clear hG
  have HB := Lib.hid hbs
  have HC := Lib.hid hc
  clear hbs hc
  obtain ⟨n, hn⟩ : ∃ n, n = (len + 7) / 8 := ⟨_, rfl⟩
  have d0 : ((len : Int) + 7) / 8 = (n : Int) := by omega
  have hn8 : len ≤ 8 * n := by omega
  have hn100 : n ≤ 100 := by omega
  have hmk : ∀ W, (Instr.makeSlice 116 (.int .i64 (n : Int)) (.int .i64 (n : Int))).run Tryd.prog W = .ok (.slice (some ⟨W.heap.size, 0, none⟩) n n) (W.alloc (.cells (J1 .u64 n fun _ => 0) 39)) := by
    intro W
    obtain ⟨i, hi, hz, hs, hby⟩ := info_parts (show (Tryd.prog.info? 39).map (fun i => (i.zero, i.size, i.bytes)) = some (some (.int .u64 0), 1, 8) by kernel_rfl)
    have h := run_make (P := Tryd.prog) W 116 39 i (.int .u64 0) Tryd.underlying116 hi hz .i64 .i64 (n : Int) (n : Int) (by omega) (by omega) (by rw [hby]; omega) (by omega)
    rw [Int.toNat_natCast, hs, Nat.mul_one, Y0g] at h
    exact h
  have HN := Lib.hid hn
  clear hn
  go_enter Tryd.func34, Tryd.ntmps34
  go_wp2
  go_loopw [13] (fun ii wr => ∃ k : Nat, k ≤ len ∧ ii = .int .i64 k ∧ Below w.heap.size w wr ∧
      Blk wr w.heap.size #[.int .u64 0, .int .u64 0, .int .u64 0, .int .u64 0] 42 ∧ Blk wr (w.heap.size + 1) (J1 .u64 n (lim (J1f bs k))) 39)
    (fun ii _ => (len - intOf ii).toNat)
  case atStart =>
    refine ⟨0, by omega, rfl, ?_, V3 (K0 _ _ rfl) _, ?_⟩
    · exact bz
    · rw [show J1f bs 0 = 0 from rfl, J0d .u64 n (lim 0) (fun _ => 0) (fun i _ => J9y i)]
      exact K0 _ _ (by simp)
  case round =>
    obtain ⟨k, hk, rfl, hbel, b1, b2⟩ := hrel
    have off0.size := hbel.size
    by_cases hkl : k = len
    · subst hkl
      have hs : ∀ j, K4 (lim (J1f bs k) j) := fun j => J1h _ j
      go_wp2_with (go_at_call 82; refine (Q91 (lim (J1f bs k)) (w.heap.size + 1) 0 n n _ (J5a HG.out hbel HG.out.2.2.2.2) hn100 (fun j _ => hs j) (fun j hj => (by rw [Nat.zero_add]; exact (Q8 b2 j).trans (J6 _ _ _ _ hj))) (J5 b2)).mono ?_; rintro e w1 ⟨rfl, hb1⟩; have c1 := Q8 (J2 b1 hb1); have f1 := K5 (J2 b1 hb1))
      refine bodyPost_ret (v := L4 (J2u (lim (J1f bs k)) n % LL)) (by simp only [results, Tryd.results34]; go_simp) rfl ⟨?_, ?_⟩
      · rw [Z6j bs HB.out k n hn8]
      · exact bz
    · obtain ⟨q, r, hr, rfl⟩ : ∃ q r, r < 8 ∧ k = 8 * q + r := ⟨k / 8, k % 8, by omega, by omega⟩
      have hkl' : 8 * (q : Int) + (r : Int) < (len : Int) := by omega
      have cb := (hbel.cell (p := ⟨b, off + (8 * q + r), none⟩) hb).trans (HC.out (8 * q + r) (by omega))
      have d1 : IntKind.i64.wrap ((8 * (q : Int) + (r : Int)).tdiv 8) = (q : Int) := by rw [Int.tdiv_eq_ediv_of_nonneg (by omega), IntWalk.i64_in _ (by omega)]; omega
      have d2 : (8 * (q : Int) + (r : Int)).tmod 8 = (r : Int) := by rw [Int.tmod_eq_emod_of_nonneg (by omega)]; omega
      have d3 : IntKind.i64.wrap (8 * (r : Int)) = 8 * (r : Int) := IntWalk.i64_in _ (by omega)
      have d4 : IntKind.u64.wrap (bs (8 * q + r)) = bs (8 * q + r) := by have := HB.out (8 * q + r); unfold J4m at this; rw [IntKind.wrap_u64]; omega
      have hq0 : (0 : Int) ≤ (q : Int) := by omega
      have hq1 : (q : Int) < (n : Int) := by have := HN.out; omega
      have hr0 : (0 : Int) ≤ (r : Int) := by omega
      have hr1 : (r : Int) < 8 := by omega
      have c2 := (Q8 b2 q).trans (J6 _ _ _ _ (by omega))
      have f2 := K5 b2
      have hs := fun v => V1 b2 q v
      clear hkl
      go_wp2
      go_region
      go_wp2
      go_roundw
      case rel =>
        refine ⟨8 * q + r + 1, by omega, by go_num, ?_, V4 (J9 b1 (by omega) _ _), ?_⟩
        · exact bz
        · have := hs (.int .u64 (bits .or .u64 (lim (J1f bs (8 * q + r)) q) (IntKind.wrap .u64 (bs (8 * q + r) * 2 ^ (8 * r)))))
          rw [Q1i bs HB.out n q r hr] at this
          exact V4 this
      case measure => simp [intOf]; omega
end Go.Proofs.YtefpoollmbmkfaaDoor.Sc

namespace Go.Proofs.YtefpoollmbmkfaaDoor.Sc
set_option maxHeartbeats 4000000
set_option maxRecDepth 100000
open Go.RowKit

def J21 (bs : Nat → Int) : Nat → Int := fun j => if j = 0 then bs 0 - bs 0 % 8 else if j = 31 then bs 31 % 64 + 64 else bs j
theorem Y50 (x : Int) (h : J4m x) : bits .andNot .u8 x 7 = x - x % 8 := by
  obtain ⟨h0, h1⟩ := h
  obtain ⟨n, rfl⟩ := Int.eq_ofNat_of_zero_le h0
  have key : ∀ n : Nat, n < 256 → bits .andNot .u8 (n : Int) 7 = (n : Int) - (n : Int) % 8 := by decide +kernel
  exact key n (by omega)
theorem Z6k (x : Int) (h : J4m x) : bits .or .u8 (bits .and .u8 x 63) 64 = x % 64 + 64 := by
  obtain ⟨h0, h1⟩ := h
  obtain ⟨n, rfl⟩ := Int.eq_ofNat_of_zero_le h0
  have key : ∀ n : Nat, n < 256 → bits .or .u8 (bits .and .u8 (n : Int) 63) 64 = (n : Int) % 64 + 64 := by decide +kernel
  exact key n (by omega)
theorem Z6l (bs : Nat → Int) : ((J1 .u8 32 bs).setIfInBounds 0 (.int .u8 (bs 0 - bs 0 % 8))).setIfInBounds 31 (.int .u8 (bs 31 % 64 + 64)) = J1 .u8 32 (J21 bs) := by
  rw [J04, J04]
  apply J0d
  intro j _
  unfold upd J21
  by_cases h : j = 31
  · subst h; rfl
  · by_cases h2 : j = 0
    · subst h2; rfl
    · simp [h, h2]

theorem clamp_c (bs : Nat → Int) (hbs : ∀ j, J4m (bs j)) (w : World) :
  Calls Tryd.prog 42 #[.agg (J1 .u8 32 bs)] w fun e w' => Ret (.agg (J1 .u8 32 (J21 bs))) w w' e := by
 have a0 := Y50 (bs 0) (hbs 0)
 have a1 := Z6k (bs 31) (hbs 31)
 clear hbs
 go_enter Tryd.func42, Tryd.ntmps42
 go_upto_region 1 with fail
 refine wn2 (c1 := (J1 .u8 32 bs)) (t1 := 22) (c2 := (J1 .u8 32 (fun _ => 0))) (t2 := 22) fun W hbel b1 b2 => ?_
 have c0 := (Q8 b1 0).trans (J6 _ _ _ _ (by omega))
 have c31 := (Q8 b1 31).trans (J6 _ _ _ _ (by omega))
 have f1 := K5 b1
 have hs := V1 (V1 b1 0 (.int .u8 (bs 0 - bs 0 % 8))) 31 (.int .u8 (bs 31 % 64 + 64))
 rw [Z6l] at hs
 have hs2 := J9 (J9 b2 (show w.heap.size + 1 ≠ w.heap.size by omega) 0 (.int .u8 (bs 0 - bs 0 % 8))) (show w.heap.size + 1 ≠ w.heap.size by omega) 31 (.int .u8 (bs 31 % 64 + 64))
 have HS := Lib.hid hs
 have HS2 := Lib.hid hs2
 clear hs hs2
 go_wp2_with (first
  | (refine wpList_load_row rfl 22 (.tmp 1) rfl w.heap.size rfl _ _ _ _ HS.out Tryd.underlying22 rfl (by kernel_rfl) ?_)
  | (refine wpList_store_row rfl 22 (.tmp 2) (.tmp 12) rfl (w.heap.size + 1) _ rfl rfl 22 _ HS2.out (by kernel_rfl) (by kernel_rfl) (Y7 _ _ _) ?_))
 refine bodyPost_ret (results_cell_row rfl _ _ (w.heap.size + 1) _ _ _ _ rfl (V0 HS2.out _) Tryd.underlying22 rfl (by kernel_rfl)) rfl ⟨rfl, Y5 ?_ (by omega) _⟩
 exact Y8 (Y8 hbel (by omega) _ _) (by omega) _ _
end Go.Proofs.YtefpoollmbmkfaaDoor.Sc
