/- custumalref05.FromBytes. Conditions: the text is 32 bytes. -/
import Derived.Test.YtghajiagbfcmdaaDoorFrH
namespace Go.Proofs.YtghajiagbfcmdaaDoor
set_option linter.unusedSimpArgs false
set_option linter.unusedVariables false
open Go.RowKit

theorem bits_or_i64_nat (a b : Nat) (ha : a < 9223372036854775808) (hb : b < 9223372036854775808) :
    bits .or .i64 (a : Int) (b : Int) = ((a ||| b : Nat) : Int) := by
  have hx : a ||| b < 2 ^ 63 := Nat.or_lt_two_pow (by omega) (by omega)
  have h1 : (BitVec.ofInt 64 (a : Int)).toNat = a := by
    rw [BitVec.ofInt_natCast, BitVec.toNat_ofNat]; exact Nat.mod_eq_of_lt (by omega)
  have h2 : (BitVec.ofInt 64 (b : Int)).toNat = b := by
    rw [BitVec.ofInt_natCast, BitVec.toNat_ofNat]; exact Nat.mod_eq_of_lt (by omega)
  show IntKind.i64.wrap ((BitVec.ofInt 64 (a : Int) ||| BitVec.ofInt 64 (b : Int)).toNat : Int) = _
  rw [BitVec.toNat_or, h1, h2, IntKind.wrap_i64]
  omega
theorem l16_two (V k : Nat) : bits .or .i64 (byt V (2 * k)) (byt V (2 * k + 1) * 2 ^ 8) = l16 V k := by
  unfold byt l16
  rw [show 8 * (2 * k) = 16 * k by omega, show 8 * (2 * k + 1) = 16 * k + 8 by omega, Nat.pow_add, ← Nat.div_div_eq_div_mul]
  generalize V / 2 ^ (16 * k) = x
  have h1 : x % 256 < 2 ^ 8 := Nat.mod_lt _ (by decide)
  have e : ((x / 2 ^ 8 % 256 : Nat) : Int) * 2 ^ 8 = ((x / 2 ^ 8 % 256 * 256 : Nat) : Int) := by rw [Int.natCast_mul]; rfl
  rw [e]
  have e3 : x % 256 ||| x / 2 ^ 8 % 256 * 256 = x % 65536 := by
    rw [Nat.or_comm, show (256 : Nat) = 2 ^ 8 by decide, Nat.mul_comm, ← Nat.two_pow_add_eq_or_of_lt h1]; omega
  rw [bits_or_i64_nat _ _ (by omega) (by omega), e3]
theorem l16_top (V : Nat) : bits .and .i64 (l16 V 15) 32767 = l16 (V % 2 ^ 255) 15 := by
  have h := l16_ok V 15
  have e := bits_mask .i64 63 (by decide) (fun n a b => by rw [IntKind.wrap_i64]; omega) 15 (by omega) (l16 V 15) h.1 (by omega)
  have e1 : (2 : Int) ^ 15 - 1 = 32767 := by decide
  have e2 : (2 : Int) ^ 15 = 32768 := by decide
  rw [e1, e2] at e
  rw [e]
  unfold l16
  simp only [Nat.reduceMul, Nat.reducePow]
  omega
theorem top_set (V : Nat) : (arrK .i64 16 (l16 V)).setIfInBounds 15 (.int .i64 (bits .and .i64 (l16 V 15) 32767)) = arrK .i64 16 (l16 (V % 2 ^ 255)) := by
  rw [l16_top, arrK_set]
  apply arrK_congr
  intro j hj
  by_cases h3 : j = 15
  · subst h3; rw [upd_same]
  · rw [upd_other _ _ _ _ h3]
    have : j = 0 ∨ j = 1 ∨ j = 2 ∨ j = 3 ∨ j = 4 ∨ j = 5 ∨ j = 6 ∨ j = 7 ∨ j = 8 ∨ j = 9 ∨ j = 10 ∨ j = 11 ∨ j = 12 ∨ j = 13 ∨ j = 14 := by omega
    unfold l16
    rcases this with rfl | rfl | rfl | rfl | rfl | rfl | rfl | rfl | rfl | rfl | rfl | rfl | rfl | rfl | rfl <;> simp only [Nat.reduceMul, Nat.reducePow] <;> omega

set_option maxHeartbeats 4000000 in
theorem rFrom_c (V : Nat) (w : World) :
    Calls Tryd.prog 38 #[strN 32 (byt V)] w fun e w' => Ret (A16 (V % 2 ^ 255 % PP)) w w' e := by
  have hI : ∀ j : Nat, j < 32 → ∀ W, (Instr.index 9 (strN 32 (byt V)) (.int .i64 (j : Int))).run Tryd.prog W = .ok (.int .u8 (byt V j)) W := fun j hj W => strN_index 9 Tryd.underlying9 32 (byt V) (fun i _ => byt_ok V i) j hj W
  have HI := Lib.hid hI
  clear hI
  obtain ⟨S, hS⟩ : ∃ v_, v_ = strN 32 (byt V) := ⟨_, rfl⟩
  rw [← hS] at HI ⊢
  clear hS
  go_enter Tryd.func38, Tryd.ntmps38
  go_wp2_with fail
  refine wp_world (fun W => Below w.heap.size w W ∧ Blk W w.heap.size (arrK .i64 16 (fun _ => 0)) 39 ∧ Blk W (w.heap.size + 1) (arrK .i64 16 (fun _ => 0)) 39) ⟨(by (repeat' (first | (with_reducible assumption) | (with_reducible exact Below.refl _ _) | (with_reducible refine Below.drew ?_) | (with_reducible refine Below.alloc ?_ ?_ _) | (with_reducible refine below_set ?_ ?_ _ _) | (with_reducible refine below_setRow ?_ ?_ _) | (with_reducible refine below_step ?_ (by assumption) ?_))) <;> (first | omega | ((try simp only [World.size_alloc, World.size_setCell, World.size_drew, size_setRow]); omega))), blk_alloc (blk_new _ _ rfl) _, blk_new _ _ (by simp)⟩ ?_
  rintro W0 ⟨bel, k_t2, k_t3⟩
  have lt_t2_0 := blk_lt k_t2
  have lt_t3_0 := blk_lt k_t3
  go_wp2_with fail
  go_loopw [4] (fun ii wr => ∃ (k : Nat), k ≤ 16 ∧ ii = .int .i64 k ∧ Below w.heap.size w wr ∧ Blk wr w.heap.size (arrK .i64 16 (fun _ => 0)) 39 ∧ Blk wr (w.heap.size + 1) (arrK .i64 16 (mixF k (l16 V) (fun _ => 0))) 39)
    (fun ii _ => (16 - intOf ii).toNat)
  case atStart =>
    refine ⟨0, by omega, rfl, bel, k_t2, ?_⟩
    rw [mixF_zero]; exact k_t3
  case round =>
    obtain ⟨k, hk, rfl, bel, k_t2, k_t3⟩ := hrel
    by_cases hexit : k = 16
    · have _hx := hexit
      subst hexit
      rw [mixF_all] at k_t3
      have c3 := (blk_cell k_t3 15).trans (arrK_get _ _ _ _ (by omega))
      have f3 := blk_free k_t3
      have bT : V % 2 ^ 255 < P256 := Nat.lt_trans (Nat.mod_lt _ (by decide)) (by decide)
      go_upto_region 7 with fail
      have hs := blk_set k_t3 15 (.int .i64 (bits .and .i64 (l16 V 15) 32767))
      rw [top_set] at hs
      have hF := And.intro (below_set bel (show w.heap.size ≤ (w.heap.size + 1) by omega) 15 (.int .i64 (bits .and .i64 (l16 V 15) 32767))) (And.intro (blk_other k_t2 (show w.heap.size ≠ (w.heap.size + 1) by omega) 15 (.int .i64 (bits .and .i64 (l16 V 15) 32767))) hs)
      generalize wr.setCell ⟨w.heap.size + 1, 15, none⟩ (.int .i64 (bits .and .i64 (l16 V 15) 32767)) = Wm at hF ⊢
      clear bel k_t2 k_t3 c3 f3 hs
      obtain ⟨bel, k_t2, k_t3⟩ := hF
      have lt_t2_1 := blk_lt k_t2
      have lt_t3_1 := blk_lt k_t3
      have c_t := rtidy_c (l16 (V % 2 ^ 255)) (okF_l16 _)
      rw [sval_one _ bT] at c_t
      obtain ⟨R, hR⟩ : ∃ v_, v_ = V % 2 ^ 255 % PP := ⟨_, rfl⟩
      rw [← hR] at c_t
      have HR := Lib.hid hR
      clear hR
      refine wp_region_pn 2 [] (fun x hx => by cases hx) (by kernel_rfl) ?_
      simp only [List.take_succ_cons, List.take_zero, List.take_nil]
      (try simp only [Act.put, List.setIfInBounds_toArray, List.set_cons_zero, List.set_cons_succ])
      ((with_reducible refine wpX_load (b := ?_) (cs := ?_) ?_ rfl ?_ ?_ ?_ ?_ ?_); rotate_left 2; (focus rfl); (focus rfl); (focus first | assumption | exact blk_rd (by assumption)); (focus kernel_rfl); (focus kernel_rfl); (try simp only [Act.put, List.setIfInBounds_toArray, List.set_cons_zero, List.set_cons_succ]))
      ((with_reducible refine wpX_fn (fun W hW => c_t W) ?_ rfl ?_ ?_ ?_); (focus rfl); (focus kernel_rfl); (focus rfl); (try simp only [Act.put, List.setIfInBounds_toArray, List.set_cons_zero, List.set_cons_succ]))
      refine wpX_nil ?_
      intro β W2 hE hN hD
      simp only [putAll, Act.put, List.setIfInBounds_toArray, List.set_cons_zero, List.set_cons_succ, List.drop_succ_cons, List.drop_zero, List.drop_nil, List.length_cons, List.length_nil]
      clear hN hD β
      refine wpL_store (g := w.heap.size) (cells := arrK .i64 16 (l16 R)) (by rfl) rfl rfl rfl (blk_step k_t2 hE) (by kernel_rfl) (by kernel_rfl) (arrK_one _ _ _) ?_
      (try simp only [Act.put, List.setIfInBounds_toArray, List.set_cons_zero, List.set_cons_succ])
      refine wpL_nil ?_
      have hF : Below w.heap.size w (W2.setRow w.heap.size (arrK .i64 16 (l16 R))) ∧ Blk (W2.setRow w.heap.size (arrK .i64 16 (l16 R))) w.heap.size (arrK .i64 16 (l16 R)) 39 ∧ Blk (W2.setRow w.heap.size (arrK .i64 16 (l16 R))) (w.heap.size + 1) (arrK .i64 16 (l16 (V % 2 ^ 255))) 39 := ⟨(below_setRow (below_step bel hE bel.size) (by omega) _), (blk_setRow (blk_step k_t2 hE) (arrK .i64 16 (l16 R))), (blk_setRow_other (blk_step k_t3 hE) (by omega) _)⟩
      generalize (W2.setRow w.heap.size (arrK .i64 16 (l16 R))) = W3 at hF ⊢
      clear bel k_t2 k_t3
      obtain ⟨bel, k_t2, k_t3⟩ := hF
      go_wp2
      refine bodyPost_ret (res_row rfl rfl k_t2 (by kernel_rfl) (by kernel_rfl)) rfl ⟨?_, bel⟩
      (rw [← HR.out] <;> rfl)
    · have hk3 : k < 16 := by omega
      have hk3' : (k : Int) < 16 := by omega
      clear hexit
      have c3 := (blk_cell k_t3 k).trans (arrK_get _ _ _ _ hk3)
      rw [mixF_at] at c3
      have f3 := blk_free k_t3
      have i0 := fun W => HI.out (2 * k) (by omega) W
      have i1 := fun W => HI.out (2 * k + 1) (by omega) W
      obtain ⟨b0, b1⟩ := byt_ok V (2 * k)
      obtain ⟨b2, b3⟩ := byt_ok V (2 * k + 1)
      have ho : bits .or .i64 (byt V (2 * k)) (byt V (2 * k + 1) * 256) = l16 V k := l16_two V k
      have w0 : IntKind.i64.wrap (2 * (k : Int)) = 2 * (k : Int) := IntWalk.i64_in _ (by omega)
      have w1 : IntKind.i64.wrap (2 * (k : Int) + 1) = 2 * (k : Int) + 1 := IntWalk.i64_in _ (by omega)
      have e0 : ((2 * k : Nat) : Int) = 2 * (k : Int) := by omega
      have e1 : ((2 * k + 1 : Nat) : Int) = 2 * (k : Int) + 1 := by omega
      rw [e0] at i0
      rw [e1] at i1
      have w2 : IntKind.i64.wrap (byt V (2 * k)) = byt V (2 * k) := IntWalk.i64_in _ (by omega)
      have w3 : IntKind.i64.wrap (byt V (2 * k + 1)) = byt V (2 * k + 1) := IntWalk.i64_in _ (by omega)
      have w4 : IntKind.i64.wrap (byt V (2 * k + 1) * 2 ^ 8) = byt V (2 * k + 1) * 2 ^ 8 := IntWalk.i64_in _ (by omega)
      have w5 : IntKind.i64.wrap (byt V (2 * k + 1) * 256) = byt V (2 * k + 1) * 2 ^ 8 := IntWalk.i64_in _ (by omega)
      go_wp2
      go_region
      go_wp2
      have hs := blk_set k_t3 k (.int .i64 (l16 V k))
      rw [mixF_set] at hs
      go_roundw
      case rel =>
        refine ⟨k + 1, by omega, ?_, ?_, ?_, blk_drew hs⟩
        · (first | rfl | go_num)
        · exact (below_set bel (by omega) _ _).drew
        · exact blk_drew (blk_other k_t2 (by omega) _ _)
      case measure => simp [intOf]; omega
end Go.Proofs.YtghajiagbfcmdaaDoor
