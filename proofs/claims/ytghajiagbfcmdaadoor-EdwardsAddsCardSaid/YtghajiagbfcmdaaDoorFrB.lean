/- custumalref05.tidy. Conditions: no part is less than nought or more than 2^50. -/
import Derived.Test.YtghajiagbfcmdaaDoorFrA
import Derived.Test.YtghajiagbfcmdaaDoorFeB
namespace Go.Proofs.YtghajiagbfcmdaaDoor
set_option linter.unusedSimpArgs false
set_option linter.unusedVariables false
open Go.RowKit

theorem sub16_parts (X Y k : Nat) (h : Y ≤ X) :
    (bor16 X Y (k + 1) = 0 ∧ l16 X k - l16 Y k - (bor16 X Y k : Int) = l16 (X - Y) k) ∨
     (bor16 X Y (k + 1) = 1 ∧ l16 X k - l16 Y k - (bor16 X Y k : Int) < 0 ∧ l16 X k - l16 Y k - (bor16 X Y k : Int) + 65536 = l16 (X - Y) k) := by
  have r1 := l16_ok X k
  have r2 := l16_ok Y k
  have r3 := bor16_le X Y k
  have r4 := l16_ok (X - Y) k
  have r5 := bor16_le X Y (k + 1)
  have hs := sub16_step X Y k h
  rcases Nat.lt_or_ge (bor16 X Y (k + 1)) 1 with h0 | h1
  · rw [show bor16 X Y (k + 1) = 0 by omega] at hs ⊢; exact .inl ⟨rfl, by omega⟩
  · rw [show bor16 X Y (k + 1) = 1 by omega] at hs ⊢; exact .inr ⟨rfl, by omega, by omega⟩
theorem l16_PP : ∀ k, k < 16 → l16 PP k = if k = 0 then 65517 else if k = 15 then 32767 else 65535 := by
  intro k hk
  have : k = 0 ∨ k = 1 ∨ k = 2 ∨ k = 3 ∨ k = 4 ∨ k = 5 ∨ k = 6 ∨ k = 7 ∨ k = 8 ∨ k = 9 ∨ k = 10 ∨ k = 11 ∨ k = 12 ∨ k = 13 ∨ k = 14 ∨ k = 15 := by omega
  rcases this with rfl | rfl | rfl | rfl | rfl | rfl | rfl | rfl | rfl | rfl | rfl | rfl | rfl | rfl | rfl | rfl <;> decide +kernel
theorem l16_more (N k : Nat) (hk : k < 16) : l16 (N + P256) k = l16 N k := by
  unfold l16
  obtain ⟨d, hd⟩ : ∃ d, P256 = 2 ^ (16 * k) * (65536 * 2 ^ d) := ⟨16 * (15 - k), by
    rw [show (65536 : Nat) = 2 ^ 16 by decide, ← Nat.pow_add, ← Nat.pow_add, show 16 * k + (16 + 16 * (15 - k)) = 256 by omega]; decide⟩
  rw [hd, Nat.add_mul_div_left _ _ (Nat.two_pow_pos _), Nat.add_mul_mod_self_left]
theorem bor_end (N : Nat) (hN : N < P256) : bor16 (N + P256) PP 16 = if N < PP then 1 else 0 := by
  unfold bor16
  rw [show (2 : Nat) ^ (16 * 16) = P256 by decide, Nat.add_mod_right, Nat.mod_eq_of_lt hN, Nat.mod_eq_of_lt PP_lt]
theorem dig_end (N : Nat) (hN : N < P256) (h : ¬ N < PP) : arrK .i64 16 (l16 (N + P256 - PP)) = arrK .i64 16 (l16 (N - PP)) := by
  apply arrK_congr
  intro j hj
  rw [show N + P256 - PP = (N - PP) + P256 by omega, l16_more _ _ hj]
theorem cr_mod (V : Nat) : cr V % PP = V % PP := by
  unfold cr
  have hd := Nat.div_add_mod V P256
  conv => rhs; rw [← hd]
  rw [show P256 = 2 * PP + 38 from PP_two.symm, show (2 * PP + 38) * (V / (2 * PP + 38)) + V % (2 * PP + 38) = V % (2 * PP + 38) + 38 * (V / (2 * PP + 38)) + PP * (2 * (V / (2 * PP + 38))) by rw [Nat.add_mul, Nat.mul_left_comm PP, Nat.mul_assoc]; omega, Nat.add_mul_mod_self_left]

set_option maxHeartbeats 4000000 in
theorem rtidy_c (f : Nat → Int) (hf : okF f) (w : World) :
    Calls Tryd.prog 59 #[.agg (arrK .i64 16 f)] w fun e w' => Ret (A16 (sval f 16 % PP)) w w' e := by
  go_enter Tryd.func59, Tryd.ntmps59
  go_upto_region 1 with fail
  refine wp_world (fun W => Below w.heap.size w W ∧ Blk W w.heap.size (arrK .i64 16 (f)) 39 ∧ Blk W (w.heap.size + 1) (arrK .i64 16 (fun _ => 0)) 39) ⟨(by (repeat' (first | (with_reducible assumption) | (with_reducible exact Below.refl _ _) | (with_reducible refine Below.drew ?_) | (with_reducible refine Below.alloc ?_ ?_ _) | (with_reducible refine below_set ?_ ?_ _ _) | (with_reducible refine below_setRow ?_ ?_ _) | (with_reducible refine below_step ?_ (by assumption) ?_))) <;> (first | omega | ((try simp only [World.size_alloc, World.size_setCell, World.size_drew, size_setRow]); omega))), blk_alloc (blk_new _ _ rfl) _, blk_new _ _ (by simp)⟩ ?_
  rintro W0 ⟨bel, k_t1, k_t2⟩
  have lt_t1_0 := blk_lt k_t1
  have lt_t2_0 := blk_lt k_t2
  have c_c := rcarry_c f hf
  obtain ⟨W, hW⟩ : ∃ v_, v_ = cr (cr (sval f 16)) := ⟨_, rfl⟩
  rw [← hW] at c_c
  have bW : W < P256 := by rw [hW]; exact cr_cr_lt _ (sval_lt f hf 16)
  have HW := Lib.hid hW
  have BW := Lib.hid bW
  clear hW bW
  refine wp_region_pn 2 [] (fun x hx => by cases hx) (by kernel_rfl) ?_
  simp only [List.take_succ_cons, List.take_zero, List.take_nil]
  (try simp only [Act.put, List.setIfInBounds_toArray, List.set_cons_zero, List.set_cons_succ])
  ((with_reducible refine wpX_load (b := ?_) (cs := ?_) ?_ rfl ?_ ?_ ?_ ?_ ?_); rotate_left 2; (focus rfl); (focus rfl); (focus first | assumption | exact blk_rd (by assumption)); (focus kernel_rfl); (focus kernel_rfl); (try simp only [Act.put, List.setIfInBounds_toArray, List.set_cons_zero, List.set_cons_succ]))
  ((with_reducible refine wpX_fn (fun W hW => c_c W) ?_ rfl ?_ ?_ ?_); (focus rfl); (focus kernel_rfl); (focus rfl); (try simp only [Act.put, List.setIfInBounds_toArray, List.set_cons_zero, List.set_cons_succ]))
  refine wpX_nil ?_
  intro β W1 hE hN hD
  simp only [putAll, Act.put, List.setIfInBounds_toArray, List.set_cons_zero, List.set_cons_succ, List.drop_succ_cons, List.drop_zero, List.drop_nil, List.length_cons, List.length_nil]
  clear hN hD β
  refine wpL_store (g := w.heap.size) (cells := arrK .i64 16 (l16 W)) (by rfl) rfl rfl rfl (blk_step k_t1 hE) (by kernel_rfl) (by kernel_rfl) (arrK_one _ _ _) ?_
  (try simp only [Act.put, List.setIfInBounds_toArray, List.set_cons_zero, List.set_cons_succ])
  refine wpL_nil ?_
  have hF : Below w.heap.size w (W1.setRow w.heap.size (arrK .i64 16 (l16 W))) ∧ Blk (W1.setRow w.heap.size (arrK .i64 16 (l16 W))) w.heap.size (arrK .i64 16 (l16 W)) 39 ∧ Blk (W1.setRow w.heap.size (arrK .i64 16 (l16 W))) (w.heap.size + 1) (arrK .i64 16 (fun _ => 0)) 39 := ⟨(below_setRow (below_step bel hE bel.size) (by omega) _), (blk_setRow (blk_step k_t1 hE) (arrK .i64 16 (l16 W))), (blk_setRow_other (blk_step k_t2 hE) (by omega) _)⟩
  generalize (W1.setRow w.heap.size (arrK .i64 16 (l16 W))) = W2 at hF ⊢
  clear bel k_t1 k_t2
  obtain ⟨bel, k_t1, k_t2⟩ := hF
  have lt_t1_2 := blk_lt k_t1
  have lt_t2_2 := blk_lt k_t2
  go_wp2_with fail
  go_loopw [3] (fun tt wr => ∃ (t N : Nat), t ≤ 3 ∧ tt = .int .i64 t ∧ N + t * PP = W ∧ Below w.heap.size w wr ∧ Blk wr w.heap.size (arrK .i64 16 (l16 N)) 39 ∧ Blk wr (w.heap.size + 1) (arrK .i64 16 (fun _ => 0)) 39)
    (fun tt _ => (3 - intOf tt).toNat)
  case atStart =>
    exact ⟨0, W, by omega, rfl, by omega, bel, k_t1, k_t2⟩
  case round =>
    obtain ⟨t, N, ht, rfl, hN, bel, k_t1, k_t2⟩ := hrel
    have bN : N < P256 := by have := BW.out; omega
    have HN := Lib.hid hN
    have BN := Lib.hid bN
    clear hN bN
    obtain ⟨M, hM⟩ : ∃ v_, v_ = N + P256 := ⟨_, rfl⟩
    obtain ⟨D, hD⟩ : ∃ v_, v_ = N + P256 - PP := ⟨_, rfl⟩
    have HM := Lib.hid hM
    have HDD := Lib.hid hD
    clear hM hD
    by_cases hexit : t = 3
    · have _hx := hexit
      exfalso
      have := HN.out
      have := BW.out
      subst hexit
      unfold P256 PP at *; omega
    · have ht3 : t < 3 := by omega
      clear hexit
      by_cases hlt : N < PP
      · have HL := Lib.hid hlt
        clear hlt
        go_upto_region 5 with fail
        have lt_t1_3 := blk_lt k_t1
        have lt_t2_3 := blk_lt k_t2
        refine wp_region_pn 1 [⟨1, 4, arrK .i64 16 (fun _ => 0), 39⟩] ?_ (by kernel_rfl) ?_
        · intro x hx
          simp only [List.mem_cons, List.not_mem_nil, or_false] at hx
          subst hx; exact ⟨_, rfl, rfl, rfl, fun _ _ => by kernel_rfl⟩
        simp only [List.take_succ_cons, List.take_zero, List.take_nil]
        (try simp only [Act.put, List.setIfInBounds_toArray, List.set_cons_zero, List.set_cons_succ])
        ((with_reducible refine wpX_load (b := ?_) (cs := ?_) ?_ rfl ?_ ?_ ?_ ?_ ?_); rotate_left 2; (focus rfl); (focus rfl); (focus first | assumption | exact blk_rd (by assumption)); (focus kernel_rfl); (focus kernel_rfl); (try simp only [Act.put, List.setIfInBounds_toArray, List.set_cons_zero, List.set_cons_succ]))
        refine wpX_nil ?_
        intro β W4 hE hN hD
        obtain ⟨n_t4_4, k_t4⟩ := hN _ (List.mem_cons_self ..)
        simp only [putAll, Act.put, List.setIfInBounds_toArray, List.set_cons_zero, List.set_cons_succ, List.drop_succ_cons, List.drop_zero, List.drop_nil, List.length_cons, List.length_nil] at n_t4_4 k_t4 ⊢
        generalize β 1 = p4_4 at *
        have sz_4 := bel.size
        clear hN hD β
        refine wpL_store (g := p4_4) (cells := arrK .i64 16 (l16 N)) (by rfl) rfl rfl rfl k_t4 (by kernel_rfl) (by kernel_rfl) (arrK_one _ _ _) ?_
        (try simp only [Act.put, List.setIfInBounds_toArray, List.set_cons_zero, List.set_cons_succ])
        refine wpL_nil ?_
        have hF : Below w.heap.size w (W4.setRow p4_4 (arrK .i64 16 (l16 N))) ∧ Blk (W4.setRow p4_4 (arrK .i64 16 (l16 N))) w.heap.size (arrK .i64 16 (l16 N)) 39 ∧ Blk (W4.setRow p4_4 (arrK .i64 16 (l16 N))) (w.heap.size + 1) (arrK .i64 16 (fun _ => 0)) 39 ∧ Blk (W4.setRow p4_4 (arrK .i64 16 (l16 N))) p4_4 (arrK .i64 16 (l16 N)) 39 := ⟨(below_setRow (below_step bel hE bel.size) (by omega) _), (blk_setRow_other (blk_step k_t1 hE) (by omega) _), (blk_setRow_other (blk_step k_t2 hE) (by omega) _), (blk_setRow k_t4 (arrK .i64 16 (l16 N)))⟩
        generalize (W4.setRow p4_4 (arrK .i64 16 (l16 N))) = W5 at hF ⊢
        clear bel k_t1 k_t2 k_t4
        obtain ⟨bel, k_t1, k_t2, k_t4⟩ := hF
        have c0 := (blk_cell k_t4 0).trans (arrK_get _ _ _ _ (by omega))
        have f0 := blk_free k_t4
        have lb := l16_ok N 0
        go_wp2_with fail
        have hs := blk_set k_t4 0 (.int .i64 (l16 N 0 - 65517))
        rw [arrK_set] at hs
        have hF := And.intro (below_set bel (show w.heap.size ≤ p4_4 by omega) 0 (.int .i64 (l16 N 0 - 65517))) (And.intro (blk_other k_t1 (show w.heap.size ≠ p4_4 by omega) 0 (.int .i64 (l16 N 0 - 65517))) (And.intro (blk_other k_t2 (show w.heap.size + 1 ≠ p4_4 by omega) 0 (.int .i64 (l16 N 0 - 65517))) hs))
        generalize W5.setCell ⟨p4_4, 0, none⟩ (.int .i64 (l16 N 0 - 65517)) = Wm at hF ⊢
        clear bel k_t1 k_t2 k_t4 c0 f0 lb hs
        obtain ⟨bel, k_t1, k_t2, k_t4⟩ := hF
        have lt_t4_5 := blk_lt k_t4
        go_wp2_with fail
        go_loopw [5, 6] (fun oo ii wr => ∃ (k : Nat), k ≤ 16 ∧ ii = .int .i64 k ∧ oo = .int .i64 (bor16 M PP k : Int) ∧ Below w.heap.size w wr ∧ Blk wr w.heap.size (arrK .i64 16 (l16 N)) 39 ∧ Blk wr (w.heap.size + 1) (arrK .i64 16 (fun _ => 0)) 39 ∧ Blk wr p4_4 (arrK .i64 16 (mixF k (l16 D) (upd (l16 N) 0 (l16 N 0 - 65517)))) 39)
          (fun oo ii _ => (16 - intOf ii).toNat)
        case atStart =>
          refine ⟨0, by omega, rfl, by rw [bor16_zero]; rfl, bel, k_t1, k_t2, ?_⟩
          rw [mixF_zero]
          exact k_t4
        case round =>
          obtain ⟨k, hk, rfl, rfl, bel, k_t1, k_t2, k_t4⟩ := hrel
          by_cases hexit : k = 16
          · have _hx := hexit
            subst hexit
            rw [mixF_all] at k_t4
            have hbe := bor_end N BN.out
            rw [← HM.out] at hbe
            (first | rw [if_pos HL.out] at hbe | rw [if_neg HL.out] at hbe)
            rw [hbe]
            clear hbe
            go_upto_region 21 with fail
            have lt_t1_6 := blk_lt k_t1
            have lt_t2_6 := blk_lt k_t2
            have lt_t4_6 := blk_lt k_t4
            refine wp_region_pn 1 [] (fun x hx => by cases hx) (by kernel_rfl) ?_
            simp only [List.take_succ_cons, List.take_zero, List.take_nil]
            (try simp only [Act.put, List.setIfInBounds_toArray, List.set_cons_zero, List.set_cons_succ])
            ((with_reducible refine wpX_load (b := ?_) (cs := ?_) ?_ rfl ?_ ?_ ?_ ?_ ?_); rotate_left 2; (focus rfl); (focus rfl); (focus first | assumption | exact blk_rd (by assumption)); (focus kernel_rfl); (focus kernel_rfl); (try simp only [Act.put, List.setIfInBounds_toArray, List.set_cons_zero, List.set_cons_succ]))
            refine wpX_nil ?_
            intro β W7 hE hN hD
            simp only [putAll, Act.put, List.setIfInBounds_toArray, List.set_cons_zero, List.set_cons_succ, List.drop_succ_cons, List.drop_zero, List.drop_nil, List.length_cons, List.length_nil]
            clear hN hD β
            refine wpL_store (g := (w.heap.size + 1)) (cells := arrK .i64 16 (l16 N)) (by rfl) rfl rfl rfl (blk_step k_t2 hE) (by kernel_rfl) (by kernel_rfl) (arrK_one _ _ _) ?_
            (try simp only [Act.put, List.setIfInBounds_toArray, List.set_cons_zero, List.set_cons_succ])
            refine wpL_nil ?_
            have hF : Below w.heap.size w (W7.setRow (w.heap.size + 1) (arrK .i64 16 (l16 N))) ∧ Blk (W7.setRow (w.heap.size + 1) (arrK .i64 16 (l16 N))) w.heap.size (arrK .i64 16 (l16 N)) 39 ∧ Blk (W7.setRow (w.heap.size + 1) (arrK .i64 16 (l16 N))) (w.heap.size + 1) (arrK .i64 16 (l16 N)) 39 ∧ Blk (W7.setRow (w.heap.size + 1) (arrK .i64 16 (l16 N))) p4_4 (arrK .i64 16 (l16 D)) 39 := ⟨(below_setRow (below_step bel hE bel.size) (by omega) _), (blk_setRow_other (blk_step k_t1 hE) (by omega) _), (blk_setRow (blk_step k_t2 hE) (arrK .i64 16 (l16 N))), (blk_setRow_other (blk_step k_t4 hE) (by omega) _)⟩
            generalize (W7.setRow (w.heap.size + 1) (arrK .i64 16 (l16 N))) = W8 at hF ⊢
            clear bel k_t1 k_t2 k_t4
            obtain ⟨bel, k_t1, k_t2, k_t4⟩ := hF
            go_wp2
            refine bodyPost_ret (res_row rfl rfl k_t2 (by kernel_rfl) (by kernel_rfl)) rfl ⟨?_, bel⟩
            rw [show sval f 16 % PP = N by rw [← cr_mod (sval f 16), ← cr_mod (cr (sval f 16)), ← HW.out, ← HN.out, Nat.add_mul_mod_self_right, Nat.mod_eq_of_lt HL.out]]; rfl
          · have hk3 : k < 16 := by omega
            have hk3' : (k : Int) < 16 := by omega
            clear hexit
            have hsp := sub16_parts M PP k (by rw [HM.out]; unfold P256 PP; omega)
            rw [show M - PP = D by rw [HM.out, HDD.out], show l16 M k = l16 N k by rw [HM.out, l16_more N k hk3], l16_PP k hk3] at hsp
            have c0 := (blk_cell k_t4 k).trans (arrK_get _ _ _ _ hk3)
            rw [mixF_at] at c0
            have f0 := blk_free k_t4
            have lb := l16_ok N k
            have bb := bor16_le M PP k
            have hset : ∀ v, v = l16 D k → (arrK .i64 16 (mixF k (l16 D) (upd (l16 N) 0 (l16 N 0 - 65517)))).setIfInBounds k (.int .i64 v) = arrK .i64 16 (mixF (k + 1) (l16 D) (upd (l16 N) 0 (l16 N 0 - 65517))) := fun v hv => by rw [hv]; exact mixF_set _ _ _ _ _
            have HS := Lib.hid hset
            clear hset
            obtain ⟨bo, hbo⟩ : ∃ v_, v_ = bor16 M PP k := ⟨_, rfl⟩
            rw [← hbo] at hsp bb ⊢
            clear hbo
            by_cases e0 : k = 0
            · subst e0
              rw [if_pos rfl] at hsp
              have hu : upd (l16 N) 0 (l16 N 0 - 65517) 0 = l16 N 0 - 65517 := upd_same _ _ _
              rw [hu] at c0
              clear hu
              obtain ⟨x, hx⟩ : ∃ v_, v_ = l16 N 0 := ⟨_, rfl⟩
              obtain ⟨d, hdd⟩ : ∃ v_, v_ = l16 D 0 := ⟨_, rfl⟩
              have lD := l16_ok D 0
              rw [← hx] at c0 hsp lb
              rw [← hdd] at hsp lD
              have HD := Lib.hid hdd
              clear hx hdd
              rcases hsp with ⟨h1, h2⟩ | ⟨h1, h2, h3⟩
              · have hneg : ¬ x - 65517 - (bo : Int) < 0 := by omega
                have H1 := Lib.hid h1
                have H2 := Lib.hid h2
                clear h1 h2 lD
                go_wp2
                have h1 := H1.out
                go_roundw
                case rel =>
                  have hs := (blk_set k_t4 0 (.int .i64 (x - 65517 - (bo : Int))))
                  rw [HS.out (x - 65517 - (bo : Int)) (H2.out.trans HD.out)] at hs
                  refine ⟨0 + 1, by omega, ?_, ?_, ?_, ?_, ?_, hs⟩
                  · go_num
                  · rw [h1]; rfl
                  · exact (below_set bel (by omega) _ _)
                  · exact (blk_other k_t1 (by omega) _ _)
                  · exact (blk_other k_t2 (by omega) _ _)
                case measure => simp [intOf] <;> omega
              · have H1 := Lib.hid h1
                have H2 := Lib.hid h3
                clear h1 h3 lD
                go_wp2
                have h1 := H1.out
                go_roundw
                case rel =>
                  have hs := (blk_set (blk_set k_t4 0 (.int .i64 (x - 65517 - (bo : Int)))) 0 (.int .i64 (x - 65517 - (bo : Int) + 65536)))
                  simp only [Array.setIfInBounds_setIfInBounds] at hs
                  rw [HS.out (x - 65517 - (bo : Int) + 65536) (H2.out.trans HD.out)] at hs
                  refine ⟨0 + 1, by omega, ?_, ?_, ?_, ?_, ?_, hs⟩
                  · go_num
                  · rw [h1]; rfl
                  · exact (below_set (below_set bel (by omega) _ _) (by omega) _ _)
                  · exact (blk_other (blk_other k_t1 (by omega) _ _) (by omega) _ _)
                  · exact (blk_other (blk_other k_t2 (by omega) _ _) (by omega) _ _)
                case measure => simp [intOf] <;> omega
            · rw [if_neg e0] at hsp
              rw [upd_other _ _ _ _ e0] at c0
              by_cases e15 : k = 15
              · subst e15
                rw [if_pos rfl] at hsp
                clear e0
                obtain ⟨x, hx⟩ : ∃ v_, v_ = l16 N 15 := ⟨_, rfl⟩
                obtain ⟨d, hdd⟩ : ∃ v_, v_ = l16 D 15 := ⟨_, rfl⟩
                have lD := l16_ok D 15
                rw [← hx] at c0 hsp lb
                rw [← hdd] at hsp lD
                have HD := Lib.hid hdd
                clear hx hdd
                rcases hsp with ⟨h1, h2⟩ | ⟨h1, h2, h3⟩
                · have hneg : ¬ x - 32767 - (bo : Int) < 0 := by omega
                  have H1 := Lib.hid h1
                  have H2 := Lib.hid h2
                  clear h1 h2 lD
                  go_wp2
                  have h1 := H1.out
                  go_roundw
                  case rel =>
                    have hs := (blk_set (blk_set k_t4 15 (.int .i64 (x - 32767))) 15 (.int .i64 (x - 32767 - (bo : Int))))
                    simp only [Array.setIfInBounds_setIfInBounds] at hs
                    rw [HS.out (x - 32767 - (bo : Int)) (H2.out.trans HD.out)] at hs
                    refine ⟨15 + 1, by omega, ?_, ?_, ?_, ?_, ?_, hs⟩
                    · go_num
                    · rw [h1]; rfl
                    · exact (below_set (below_set bel (by omega) _ _) (by omega) _ _)
                    · exact (blk_other (blk_other k_t1 (by omega) _ _) (by omega) _ _)
                    · exact (blk_other (blk_other k_t2 (by omega) _ _) (by omega) _ _)
                  case measure => simp [intOf] <;> omega
                · have H1 := Lib.hid h1
                  have H2 := Lib.hid h3
                  clear h1 h3 lD
                  go_wp2
                  have h1 := H1.out
                  go_roundw
                  case rel =>
                    have hs := (blk_set (blk_set (blk_set k_t4 15 (.int .i64 (x - 32767))) 15 (.int .i64 (x - 32767 - (bo : Int)))) 15 (.int .i64 (x - 32767 - (bo : Int) + 65536)))
                    simp only [Array.setIfInBounds_setIfInBounds] at hs
                    rw [HS.out (x - 32767 - (bo : Int) + 65536) (H2.out.trans HD.out)] at hs
                    refine ⟨15 + 1, by omega, ?_, ?_, ?_, ?_, ?_, hs⟩
                    · go_num
                    · rw [h1]; rfl
                    · exact (below_set (below_set (below_set bel (by omega) _ _) (by omega) _ _) (by omega) _ _)
                    · exact (blk_other (blk_other (blk_other k_t1 (by omega) _ _) (by omega) _ _) (by omega) _ _)
                    · exact (blk_other (blk_other (blk_other k_t2 (by omega) _ _) (by omega) _ _) (by omega) _ _)
                  case measure => simp [intOf] <;> omega
              · rw [if_neg e15] at hsp
                have p0 : (0 : Int) < (k : Int) := by omega
                have p15 : (k : Int) < 15 := by omega
                have p15b : ((k : Int) == 15) = false := by rw [beq_eq_false_iff_ne]; omega
                have g1 : decide ((0 : Int) < (k : Int)) = true := decide_eq_true p0
                have g2 : decide ((k : Int) < 15) = true := decide_eq_true p15
                have g3 : 0 < k := by omega
                have g4 : decide (0 < k) = true := decide_eq_true g3
                have g5 : k < 15 := by omega
                have g6 : decide (k < 15) = true := decide_eq_true g5
                have g7 : (k == 15) = false := by rw [beq_eq_false_iff_ne]; omega
                clear e0 e15
                obtain ⟨x, hx⟩ : ∃ v_, v_ = l16 N k := ⟨_, rfl⟩
                obtain ⟨d, hdd⟩ : ∃ v_, v_ = l16 D k := ⟨_, rfl⟩
                have lD := l16_ok D k
                rw [← hx] at c0 hsp lb
                rw [← hdd] at hsp lD
                have HD := Lib.hid hdd
                clear hx hdd
                rcases hsp with ⟨h1, h2⟩ | ⟨h1, h2, h3⟩
                · have hneg : ¬ x - 65535 - (bo : Int) < 0 := by omega
                  have H1 := Lib.hid h1
                  have H2 := Lib.hid h2
                  clear h1 h2 lD
                  go_wp2
                  have h1 := H1.out
                  go_roundw
                  case rel =>
                    have hs := (blk_set (blk_set k_t4 k (.int .i64 (x - 65535))) k (.int .i64 (x - 65535 - (bo : Int))))
                    simp only [Array.setIfInBounds_setIfInBounds] at hs
                    rw [HS.out (x - 65535 - (bo : Int)) (H2.out.trans HD.out)] at hs
                    refine ⟨k + 1, by omega, ?_, ?_, ?_, ?_, ?_, hs⟩
                    · go_num
                    · rw [h1]; rfl
                    · exact (below_set (below_set bel (by omega) _ _) (by omega) _ _)
                    · exact (blk_other (blk_other k_t1 (by omega) _ _) (by omega) _ _)
                    · exact (blk_other (blk_other k_t2 (by omega) _ _) (by omega) _ _)
                  case measure => simp [intOf] <;> omega
                · have H1 := Lib.hid h1
                  have H2 := Lib.hid h3
                  clear h1 h3 lD
                  go_wp2
                  have h1 := H1.out
                  go_roundw
                  case rel =>
                    have hs := (blk_set (blk_set (blk_set k_t4 k (.int .i64 (x - 65535))) k (.int .i64 (x - 65535 - (bo : Int)))) k (.int .i64 (x - 65535 - (bo : Int) + 65536)))
                    simp only [Array.setIfInBounds_setIfInBounds] at hs
                    rw [HS.out (x - 65535 - (bo : Int) + 65536) (H2.out.trans HD.out)] at hs
                    refine ⟨k + 1, by omega, ?_, ?_, ?_, ?_, ?_, hs⟩
                    · go_num
                    · rw [h1]; rfl
                    · exact (below_set (below_set (below_set bel (by omega) _ _) (by omega) _ _) (by omega) _ _)
                    · exact (blk_other (blk_other (blk_other k_t1 (by omega) _ _) (by omega) _ _) (by omega) _ _)
                    · exact (blk_other (blk_other (blk_other k_t2 (by omega) _ _) (by omega) _ _) (by omega) _ _)
                  case measure => simp [intOf] <;> omega
      · have HL := Lib.hid hlt
        clear hlt
        go_upto_region 5 with fail
        have lt_t1_3 := blk_lt k_t1
        have lt_t2_3 := blk_lt k_t2
        refine wp_region_pn 1 [⟨1, 4, arrK .i64 16 (fun _ => 0), 39⟩] ?_ (by kernel_rfl) ?_
        · intro x hx
          simp only [List.mem_cons, List.not_mem_nil, or_false] at hx
          subst hx; exact ⟨_, rfl, rfl, rfl, fun _ _ => by kernel_rfl⟩
        simp only [List.take_succ_cons, List.take_zero, List.take_nil]
        (try simp only [Act.put, List.setIfInBounds_toArray, List.set_cons_zero, List.set_cons_succ])
        ((with_reducible refine wpX_load (b := ?_) (cs := ?_) ?_ rfl ?_ ?_ ?_ ?_ ?_); rotate_left 2; (focus rfl); (focus rfl); (focus first | assumption | exact blk_rd (by assumption)); (focus kernel_rfl); (focus kernel_rfl); (try simp only [Act.put, List.setIfInBounds_toArray, List.set_cons_zero, List.set_cons_succ]))
        refine wpX_nil ?_
        intro β W4 hE hN hD
        obtain ⟨n_t4_4, k_t4⟩ := hN _ (List.mem_cons_self ..)
        simp only [putAll, Act.put, List.setIfInBounds_toArray, List.set_cons_zero, List.set_cons_succ, List.drop_succ_cons, List.drop_zero, List.drop_nil, List.length_cons, List.length_nil] at n_t4_4 k_t4 ⊢
        generalize β 1 = p4_4 at *
        have sz_4 := bel.size
        clear hN hD β
        refine wpL_store (g := p4_4) (cells := arrK .i64 16 (l16 N)) (by rfl) rfl rfl rfl k_t4 (by kernel_rfl) (by kernel_rfl) (arrK_one _ _ _) ?_
        (try simp only [Act.put, List.setIfInBounds_toArray, List.set_cons_zero, List.set_cons_succ])
        refine wpL_nil ?_
        have hF : Below w.heap.size w (W4.setRow p4_4 (arrK .i64 16 (l16 N))) ∧ Blk (W4.setRow p4_4 (arrK .i64 16 (l16 N))) w.heap.size (arrK .i64 16 (l16 N)) 39 ∧ Blk (W4.setRow p4_4 (arrK .i64 16 (l16 N))) (w.heap.size + 1) (arrK .i64 16 (fun _ => 0)) 39 ∧ Blk (W4.setRow p4_4 (arrK .i64 16 (l16 N))) p4_4 (arrK .i64 16 (l16 N)) 39 := ⟨(below_setRow (below_step bel hE bel.size) (by omega) _), (blk_setRow_other (blk_step k_t1 hE) (by omega) _), (blk_setRow_other (blk_step k_t2 hE) (by omega) _), (blk_setRow k_t4 (arrK .i64 16 (l16 N)))⟩
        generalize (W4.setRow p4_4 (arrK .i64 16 (l16 N))) = W5 at hF ⊢
        clear bel k_t1 k_t2 k_t4
        obtain ⟨bel, k_t1, k_t2, k_t4⟩ := hF
        have c0 := (blk_cell k_t4 0).trans (arrK_get _ _ _ _ (by omega))
        have f0 := blk_free k_t4
        have lb := l16_ok N 0
        go_wp2_with fail
        have hs := blk_set k_t4 0 (.int .i64 (l16 N 0 - 65517))
        rw [arrK_set] at hs
        have hF := And.intro (below_set bel (show w.heap.size ≤ p4_4 by omega) 0 (.int .i64 (l16 N 0 - 65517))) (And.intro (blk_other k_t1 (show w.heap.size ≠ p4_4 by omega) 0 (.int .i64 (l16 N 0 - 65517))) (And.intro (blk_other k_t2 (show w.heap.size + 1 ≠ p4_4 by omega) 0 (.int .i64 (l16 N 0 - 65517))) hs))
        generalize W5.setCell ⟨p4_4, 0, none⟩ (.int .i64 (l16 N 0 - 65517)) = Wm at hF ⊢
        clear bel k_t1 k_t2 k_t4 c0 f0 lb hs
        obtain ⟨bel, k_t1, k_t2, k_t4⟩ := hF
        have lt_t4_5 := blk_lt k_t4
        go_wp2_with fail
        go_loopw [5, 6] (fun oo ii wr => ∃ (k : Nat), k ≤ 16 ∧ ii = .int .i64 k ∧ oo = .int .i64 (bor16 M PP k : Int) ∧ Below w.heap.size w wr ∧ Blk wr w.heap.size (arrK .i64 16 (l16 N)) 39 ∧ Blk wr (w.heap.size + 1) (arrK .i64 16 (fun _ => 0)) 39 ∧ Blk wr p4_4 (arrK .i64 16 (mixF k (l16 D) (upd (l16 N) 0 (l16 N 0 - 65517)))) 39)
          (fun oo ii _ => (16 - intOf ii).toNat)
        case atStart =>
          refine ⟨0, by omega, rfl, by rw [bor16_zero]; rfl, bel, k_t1, k_t2, ?_⟩
          rw [mixF_zero]
          exact k_t4
        case round =>
          obtain ⟨k, hk, rfl, rfl, bel, k_t1, k_t2, k_t4⟩ := hrel
          by_cases hexit : k = 16
          · have _hx := hexit
            subst hexit
            rw [mixF_all] at k_t4
            have hbe := bor_end N BN.out
            rw [← HM.out] at hbe
            (first | rw [if_pos HL.out] at hbe | rw [if_neg HL.out] at hbe)
            rw [hbe]
            clear hbe
            go_upto_region 22 with fail
            have lt_t1_6 := blk_lt k_t1
            have lt_t2_6 := blk_lt k_t2
            have lt_t4_6 := blk_lt k_t4
            refine wp_region_pn 1 [] (fun x hx => by cases hx) (by kernel_rfl) ?_
            simp only [List.take_succ_cons, List.take_zero, List.take_nil]
            (try simp only [Act.put, List.setIfInBounds_toArray, List.set_cons_zero, List.set_cons_succ])
            ((with_reducible refine wpX_load (b := ?_) (cs := ?_) ?_ rfl ?_ ?_ ?_ ?_ ?_); rotate_left 2; (focus rfl); (focus rfl); (focus first | assumption | exact blk_rd (by assumption)); (focus kernel_rfl); (focus kernel_rfl); (try simp only [Act.put, List.setIfInBounds_toArray, List.set_cons_zero, List.set_cons_succ]))
            refine wpX_nil ?_
            intro β W7 hE hN hD
            simp only [putAll, Act.put, List.setIfInBounds_toArray, List.set_cons_zero, List.set_cons_succ, List.drop_succ_cons, List.drop_zero, List.drop_nil, List.length_cons, List.length_nil]
            clear hN hD β
            refine wpL_store (g := w.heap.size) (cells := arrK .i64 16 (l16 D)) (by rfl) rfl rfl rfl (blk_step k_t1 hE) (by kernel_rfl) (by kernel_rfl) (arrK_one _ _ _) ?_
            (try simp only [Act.put, List.setIfInBounds_toArray, List.set_cons_zero, List.set_cons_succ])
            refine wpL_nil ?_
            have hF : Below w.heap.size w (W7.setRow w.heap.size (arrK .i64 16 (l16 D))) ∧ Blk (W7.setRow w.heap.size (arrK .i64 16 (l16 D))) w.heap.size (arrK .i64 16 (l16 D)) 39 ∧ Blk (W7.setRow w.heap.size (arrK .i64 16 (l16 D))) (w.heap.size + 1) (arrK .i64 16 (fun _ => 0)) 39 ∧ Blk (W7.setRow w.heap.size (arrK .i64 16 (l16 D))) p4_4 (arrK .i64 16 (l16 D)) 39 := ⟨(below_setRow (below_step bel hE bel.size) (by omega) _), (blk_setRow (blk_step k_t1 hE) (arrK .i64 16 (l16 D))), (blk_setRow_other (blk_step k_t2 hE) (by omega) _), (blk_setRow_other (blk_step k_t4 hE) (by omega) _)⟩
            generalize (W7.setRow w.heap.size (arrK .i64 16 (l16 D))) = W8 at hF ⊢
            clear bel k_t1 k_t2 k_t4
            obtain ⟨bel, k_t1, k_t2, k_t4⟩ := hF
            go_wp2_with fail
            go_roundw
            case rel =>
              refine ⟨t + 1, N - PP, by omega, by go_num, by have := HN.out; have := HL.out; rw [Nat.add_mul]; omega, bel, ?_, k_t2⟩
              rw [← dig_end N BN.out HL.out, ← HDD.out]; exact k_t1
            case measure => simp [intOf]; omega
          · have hk3 : k < 16 := by omega
            have hk3' : (k : Int) < 16 := by omega
            clear hexit
            have hsp := sub16_parts M PP k (by rw [HM.out]; unfold P256 PP; omega)
            rw [show M - PP = D by rw [HM.out, HDD.out], show l16 M k = l16 N k by rw [HM.out, l16_more N k hk3], l16_PP k hk3] at hsp
            have c0 := (blk_cell k_t4 k).trans (arrK_get _ _ _ _ hk3)
            rw [mixF_at] at c0
            have f0 := blk_free k_t4
            have lb := l16_ok N k
            have bb := bor16_le M PP k
            have hset : ∀ v, v = l16 D k → (arrK .i64 16 (mixF k (l16 D) (upd (l16 N) 0 (l16 N 0 - 65517)))).setIfInBounds k (.int .i64 v) = arrK .i64 16 (mixF (k + 1) (l16 D) (upd (l16 N) 0 (l16 N 0 - 65517))) := fun v hv => by rw [hv]; exact mixF_set _ _ _ _ _
            have HS := Lib.hid hset
            clear hset
            obtain ⟨bo, hbo⟩ : ∃ v_, v_ = bor16 M PP k := ⟨_, rfl⟩
            rw [← hbo] at hsp bb ⊢
            clear hbo
            by_cases e0 : k = 0
            · subst e0
              rw [if_pos rfl] at hsp
              have hu : upd (l16 N) 0 (l16 N 0 - 65517) 0 = l16 N 0 - 65517 := upd_same _ _ _
              rw [hu] at c0
              clear hu
              obtain ⟨x, hx⟩ : ∃ v_, v_ = l16 N 0 := ⟨_, rfl⟩
              obtain ⟨d, hdd⟩ : ∃ v_, v_ = l16 D 0 := ⟨_, rfl⟩
              have lD := l16_ok D 0
              rw [← hx] at c0 hsp lb
              rw [← hdd] at hsp lD
              have HD := Lib.hid hdd
              clear hx hdd
              rcases hsp with ⟨h1, h2⟩ | ⟨h1, h2, h3⟩
              · have hneg : ¬ x - 65517 - (bo : Int) < 0 := by omega
                have H1 := Lib.hid h1
                have H2 := Lib.hid h2
                clear h1 h2 lD
                go_wp2
                have h1 := H1.out
                go_roundw
                case rel =>
                  have hs := (blk_set k_t4 0 (.int .i64 (x - 65517 - (bo : Int))))
                  rw [HS.out (x - 65517 - (bo : Int)) (H2.out.trans HD.out)] at hs
                  refine ⟨0 + 1, by omega, ?_, ?_, ?_, ?_, ?_, hs⟩
                  · go_num
                  · rw [h1]; rfl
                  · exact (below_set bel (by omega) _ _)
                  · exact (blk_other k_t1 (by omega) _ _)
                  · exact (blk_other k_t2 (by omega) _ _)
                case measure => simp [intOf] <;> omega
              · have H1 := Lib.hid h1
                have H2 := Lib.hid h3
                clear h1 h3 lD
                go_wp2
                have h1 := H1.out
                go_roundw
                case rel =>
                  have hs := (blk_set (blk_set k_t4 0 (.int .i64 (x - 65517 - (bo : Int)))) 0 (.int .i64 (x - 65517 - (bo : Int) + 65536)))
                  simp only [Array.setIfInBounds_setIfInBounds] at hs
                  rw [HS.out (x - 65517 - (bo : Int) + 65536) (H2.out.trans HD.out)] at hs
                  refine ⟨0 + 1, by omega, ?_, ?_, ?_, ?_, ?_, hs⟩
                  · go_num
                  · rw [h1]; rfl
                  · exact (below_set (below_set bel (by omega) _ _) (by omega) _ _)
                  · exact (blk_other (blk_other k_t1 (by omega) _ _) (by omega) _ _)
                  · exact (blk_other (blk_other k_t2 (by omega) _ _) (by omega) _ _)
                case measure => simp [intOf] <;> omega
            · rw [if_neg e0] at hsp
              rw [upd_other _ _ _ _ e0] at c0
              by_cases e15 : k = 15
              · subst e15
                rw [if_pos rfl] at hsp
                clear e0
                obtain ⟨x, hx⟩ : ∃ v_, v_ = l16 N 15 := ⟨_, rfl⟩
                obtain ⟨d, hdd⟩ : ∃ v_, v_ = l16 D 15 := ⟨_, rfl⟩
                have lD := l16_ok D 15
                rw [← hx] at c0 hsp lb
                rw [← hdd] at hsp lD
                have HD := Lib.hid hdd
                clear hx hdd
                rcases hsp with ⟨h1, h2⟩ | ⟨h1, h2, h3⟩
                · have hneg : ¬ x - 32767 - (bo : Int) < 0 := by omega
                  have H1 := Lib.hid h1
                  have H2 := Lib.hid h2
                  clear h1 h2 lD
                  go_wp2
                  have h1 := H1.out
                  go_roundw
                  case rel =>
                    have hs := (blk_set (blk_set k_t4 15 (.int .i64 (x - 32767))) 15 (.int .i64 (x - 32767 - (bo : Int))))
                    simp only [Array.setIfInBounds_setIfInBounds] at hs
                    rw [HS.out (x - 32767 - (bo : Int)) (H2.out.trans HD.out)] at hs
                    refine ⟨15 + 1, by omega, ?_, ?_, ?_, ?_, ?_, hs⟩
                    · go_num
                    · rw [h1]; rfl
                    · exact (below_set (below_set bel (by omega) _ _) (by omega) _ _)
                    · exact (blk_other (blk_other k_t1 (by omega) _ _) (by omega) _ _)
                    · exact (blk_other (blk_other k_t2 (by omega) _ _) (by omega) _ _)
                  case measure => simp [intOf] <;> omega
                · have H1 := Lib.hid h1
                  have H2 := Lib.hid h3
                  clear h1 h3 lD
                  go_wp2
                  have h1 := H1.out
                  go_roundw
                  case rel =>
                    have hs := (blk_set (blk_set (blk_set k_t4 15 (.int .i64 (x - 32767))) 15 (.int .i64 (x - 32767 - (bo : Int)))) 15 (.int .i64 (x - 32767 - (bo : Int) + 65536)))
                    simp only [Array.setIfInBounds_setIfInBounds] at hs
                    rw [HS.out (x - 32767 - (bo : Int) + 65536) (H2.out.trans HD.out)] at hs
                    refine ⟨15 + 1, by omega, ?_, ?_, ?_, ?_, ?_, hs⟩
                    · go_num
                    · rw [h1]; rfl
                    · exact (below_set (below_set (below_set bel (by omega) _ _) (by omega) _ _) (by omega) _ _)
                    · exact (blk_other (blk_other (blk_other k_t1 (by omega) _ _) (by omega) _ _) (by omega) _ _)
                    · exact (blk_other (blk_other (blk_other k_t2 (by omega) _ _) (by omega) _ _) (by omega) _ _)
                  case measure => simp [intOf] <;> omega
              · rw [if_neg e15] at hsp
                have p0 : (0 : Int) < (k : Int) := by omega
                have p15 : (k : Int) < 15 := by omega
                have p15b : ((k : Int) == 15) = false := by rw [beq_eq_false_iff_ne]; omega
                have g1 : decide ((0 : Int) < (k : Int)) = true := decide_eq_true p0
                have g2 : decide ((k : Int) < 15) = true := decide_eq_true p15
                have g3 : 0 < k := by omega
                have g4 : decide (0 < k) = true := decide_eq_true g3
                have g5 : k < 15 := by omega
                have g6 : decide (k < 15) = true := decide_eq_true g5
                have g7 : (k == 15) = false := by rw [beq_eq_false_iff_ne]; omega
                clear e0 e15
                obtain ⟨x, hx⟩ : ∃ v_, v_ = l16 N k := ⟨_, rfl⟩
                obtain ⟨d, hdd⟩ : ∃ v_, v_ = l16 D k := ⟨_, rfl⟩
                have lD := l16_ok D k
                rw [← hx] at c0 hsp lb
                rw [← hdd] at hsp lD
                have HD := Lib.hid hdd
                clear hx hdd
                rcases hsp with ⟨h1, h2⟩ | ⟨h1, h2, h3⟩
                · have hneg : ¬ x - 65535 - (bo : Int) < 0 := by omega
                  have H1 := Lib.hid h1
                  have H2 := Lib.hid h2
                  clear h1 h2 lD
                  go_wp2
                  have h1 := H1.out
                  go_roundw
                  case rel =>
                    have hs := (blk_set (blk_set k_t4 k (.int .i64 (x - 65535))) k (.int .i64 (x - 65535 - (bo : Int))))
                    simp only [Array.setIfInBounds_setIfInBounds] at hs
                    rw [HS.out (x - 65535 - (bo : Int)) (H2.out.trans HD.out)] at hs
                    refine ⟨k + 1, by omega, ?_, ?_, ?_, ?_, ?_, hs⟩
                    · go_num
                    · rw [h1]; rfl
                    · exact (below_set (below_set bel (by omega) _ _) (by omega) _ _)
                    · exact (blk_other (blk_other k_t1 (by omega) _ _) (by omega) _ _)
                    · exact (blk_other (blk_other k_t2 (by omega) _ _) (by omega) _ _)
                  case measure => simp [intOf] <;> omega
                · have H1 := Lib.hid h1
                  have H2 := Lib.hid h3
                  clear h1 h3 lD
                  go_wp2
                  have h1 := H1.out
                  go_roundw
                  case rel =>
                    have hs := (blk_set (blk_set (blk_set k_t4 k (.int .i64 (x - 65535))) k (.int .i64 (x - 65535 - (bo : Int)))) k (.int .i64 (x - 65535 - (bo : Int) + 65536)))
                    simp only [Array.setIfInBounds_setIfInBounds] at hs
                    rw [HS.out (x - 65535 - (bo : Int) + 65536) (H2.out.trans HD.out)] at hs
                    refine ⟨k + 1, by omega, ?_, ?_, ?_, ?_, ?_, hs⟩
                    · go_num
                    · rw [h1]; rfl
                    · exact (below_set (below_set (below_set bel (by omega) _ _) (by omega) _ _) (by omega) _ _)
                    · exact (blk_other (blk_other (blk_other k_t1 (by omega) _ _) (by omega) _ _) (by omega) _ _)
                    · exact (blk_other (blk_other (blk_other k_t2 (by omega) _ _) (by omega) _ _) (by omega) _ _)
                  case measure => simp [intOf] <;> omega
end Go.Proofs.YtghajiagbfcmdaaDoor
