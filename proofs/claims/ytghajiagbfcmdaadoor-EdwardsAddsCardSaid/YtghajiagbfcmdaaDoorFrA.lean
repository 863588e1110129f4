/- custumalref05.carry. Conditions: no part is less than nought or more than 2^50. -/
import Derived.Test.YtghajiagbfcmdaaDoorGa
import Derived.Test.YtghajiagbfcmdaaDoorGb
namespace Go.Proofs.YtghajiagbfcmdaaDoor
set_option linter.unusedSimpArgs false
set_option linter.unusedVariables false
open Go.RowKit

set_option maxHeartbeats 4000000 in
theorem rcarry_c (f : Nat → Int) (hf : okF f) (w : World) :
    Calls Tryd.prog 64 #[.agg (arrK .i64 16 f)] w fun e w' => Ret (.agg (arrK .i64 16 (l16 (cr (cr (sval f 16)))))) w w' e := by
  go_enter Tryd.func64, Tryd.ntmps64
  go_wp2_with fail
  refine wp_world (fun W => Below w.heap.size w W ∧ Blk W w.heap.size (arrK .i64 16 (f)) 39 ∧ Blk W (w.heap.size + 1) (arrK .i64 16 (fun _ => 0)) 39) ⟨(by (repeat' (first | (with_reducible assumption) | (with_reducible exact Below.refl _ _) | (with_reducible refine Below.drew ?_) | (with_reducible refine Below.alloc ?_ ?_ _) | (with_reducible refine below_set ?_ ?_ _ _) | (with_reducible refine below_setRow ?_ ?_ _) | (with_reducible refine below_step ?_ (by assumption) ?_))) <;> (first | omega | ((try simp only [World.size_alloc, World.size_setCell, World.size_drew, size_setRow]); omega))), blk_alloc (blk_new _ _ rfl) _, blk_new _ _ (by simp)⟩ ?_
  rintro W0 ⟨bel, k_t1, k_t2⟩
  have lt_t1_0 := blk_lt k_t1
  have lt_t2_0 := blk_lt k_t2
  have HF := Lib.hid hf
  clear hf
  go_wp2_with fail
  go_loopw [3] (fun tt wr => ∃ (t : Nat) (fr : Nat → Int), t ≤ 3 ∧ tt = .int .i64 t ∧ fr = nxts f t ∧ Below w.heap.size w wr ∧ Blk wr w.heap.size (arrK .i64 16 fr) 39 ∧ Blk wr (w.heap.size + 1) (arrK .i64 16 (fun _ => 0)) 39)
    (fun tt _ => (3 - intOf tt).toNat)
  case atStart =>
    exact ⟨0, f, by omega, rfl, rfl, bel, k_t1, k_t2⟩
  case round =>
    obtain ⟨t, fr, ht, rfl, hfr, bel, k_t1, k_t2⟩ := hrel
    have hfr' := nxts_ok f HF.out t
    rw [← hfr] at hfr'
    have HR := Lib.hid hfr'
    have HE := Lib.hid hfr
    clear hfr' hfr
    by_cases hexit : t = 3
    · have _hx := hexit
      subst hexit
      go_upto_region 12 with fail
      have lt_t1_1 := blk_lt k_t1
      have lt_t2_1 := blk_lt k_t2
      refine wp_region_pn 1 [] (fun x hx => by cases hx) (by kernel_rfl) ?_
      simp only [List.take_succ_cons, List.take_zero, List.take_nil]
      (try simp only [Act.put, List.setIfInBounds_toArray, List.set_cons_zero, List.set_cons_succ])
      ((with_reducible refine wpX_load (b := ?_) (cs := ?_) ?_ rfl ?_ ?_ ?_ ?_ ?_); rotate_left 2; (focus rfl); (focus rfl); (focus first | assumption | exact blk_rd (by assumption)); (focus kernel_rfl); (focus kernel_rfl); (try simp only [Act.put, List.setIfInBounds_toArray, List.set_cons_zero, List.set_cons_succ]))
      refine wpX_nil ?_
      intro β W2 hE hN hD
      simp only [putAll, Act.put, List.setIfInBounds_toArray, List.set_cons_zero, List.set_cons_succ, List.drop_succ_cons, List.drop_zero, List.drop_nil, List.length_cons, List.length_nil]
      clear hN hD β
      refine wpL_store (g := (w.heap.size + 1)) (cells := arrK .i64 16 (fr)) (by rfl) rfl rfl rfl (blk_step k_t2 hE) (by kernel_rfl) (by kernel_rfl) (arrK_one _ _ _) ?_
      (try simp only [Act.put, List.setIfInBounds_toArray, List.set_cons_zero, List.set_cons_succ])
      refine wpL_nil ?_
      have hF : Below w.heap.size w (W2.setRow (w.heap.size + 1) (arrK .i64 16 (fr))) ∧ Blk (W2.setRow (w.heap.size + 1) (arrK .i64 16 (fr))) w.heap.size (arrK .i64 16 fr) 39 ∧ Blk (W2.setRow (w.heap.size + 1) (arrK .i64 16 (fr))) (w.heap.size + 1) (arrK .i64 16 (fr)) 39 := ⟨(below_setRow (below_step bel hE bel.size) (by omega) _), (blk_setRow_other (blk_step k_t1 hE) (by omega) _), (blk_setRow (blk_step k_t2 hE) (arrK .i64 16 (fr)))⟩
      generalize (W2.setRow (w.heap.size + 1) (arrK .i64 16 (fr))) = W3 at hF ⊢
      clear bel k_t1 k_t2
      obtain ⟨bel, k_t1, k_t2⟩ := hF
      go_wp2
      refine bodyPost_ret (res_row rfl rfl k_t2 (by kernel_rfl) (by kernel_rfl)) rfl ⟨?_, bel⟩
      rw [HE.out, nxts3 f HF.out]
    · have ht3 : t < 3 := by omega
      clear hexit
      have lt_t1_1 := blk_lt k_t1
      have lt_t2_1 := blk_lt k_t2
      obtain ⟨wo, rfl⟩ : ∃ wo : World, wo = wr := ⟨_, rfl⟩
      go_wp2_with fail
      go_loopw [4, 5] (fun oo ii wr => ∃ (k : Nat), k ≤ 16 ∧ ii = .int .i64 k ∧ oo = .int .i64 (ovr fr k : Int) ∧ Below w.heap.size w wr ∧ Blk wr w.heap.size (arrK .i64 16 (mixF k (l16 (sval fr 16)) fr)) 39 ∧ Blk wr (w.heap.size + 1) (arrK .i64 16 (fun _ => 0)) 39)
        (fun oo ii _ => (16 - intOf ii).toNat)
      case atStart =>
        rw [← mixF_zero (l16 (sval fr 16)) fr] at k_t1
        refine ⟨0, by omega, rfl, ?_, bel, k_t1, k_t2⟩
        rw [ovr_zero]; rfl
      case round =>
        obtain ⟨k, hk, rfl, rfl, bel, k_t1, k_t2⟩ := hrel
        by_cases hexit : k = 16
        · have _hx := hexit
          subst hexit
          rw [mixF_all] at k_t1
          have c0 := (blk_cell k_t1 0).trans (arrK_get _ _ _ _ (by omega))
          have f0 := blk_free k_t1
          have b1 := l16_ok (sval fr 16) 0
          have b2 := ovr_le fr 1125899906842624 (fun j => (HR.out j).2) 16
          go_wp2
          have hs := blk_set k_t1 0 (.int .i64 (l16 (sval fr 16) 0 + 38 * (ovr fr 16 : Int)))
          rw [arrK_set] at hs
          go_roundw
          case rel =>
            exact ⟨t + 1, nxt fr, by omega, by go_num, by rw [HE.out]; rfl, below_set bel (by omega) _ _, hs, blk_other k_t2 (by omega) _ _⟩
          case measure => simp [intOf]; omega
        · have hk3 : k < 16 := by omega
          have hk3' : (k : Int) < 16 := by omega
          clear hexit
          obtain ⟨s1, s2⟩ := car_parts fr HR.out k hk3
          have c0 := (blk_cell k_t1 k).trans (arrK_get _ _ _ _ hk3)
          rw [mixF_at] at c0
          have f0 := blk_free k_t1
          obtain ⟨l0, l1⟩ := HR.out k
          have l2 := ovr_le fr 1125899906842624 (fun j => (HR.out j).2) k
          go_wp2
          have hs := blk_set k_t1 k (.int .i64 (l16 (sval fr 16) k))
          rw [mixF_set] at hs
          go_roundw
          case rel => exact ⟨k + 1, by omega, by go_num, rfl, below_set bel (by omega) _ _, hs, blk_other k_t2 (by omega) _ _⟩
          case measure => simp [intOf]; omega
end Go.Proofs.YtghajiagbfcmdaaDoor
