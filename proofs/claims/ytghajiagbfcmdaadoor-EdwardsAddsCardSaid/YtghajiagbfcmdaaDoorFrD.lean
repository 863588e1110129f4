/- custumalref05.Neg, Sub. Conditions: the number is not beyond the modulus. -/
import Derived.Test.YtghajiagbfcmdaaDoorFrC
namespace Go.Proofs.YtghajiagbfcmdaaDoor
set_option linter.unusedSimpArgs false
set_option linter.unusedVariables false
open Go.RowKit

set_option maxHeartbeats 4000000 in
theorem rNeg_c (X : Nat) (hX : X ≤ PP) (w : World) :
    Calls Tryd.prog 45 #[A16 X] w fun e w' => Ret (A16 ((PP - X) % PP)) w w' e := by
  have HX := Lib.hid hX
  clear hX
  unfold A16
  go_enter Tryd.func45, Tryd.ntmps45
  go_wp2_with fail
  refine wp_world (fun W => Below w.heap.size w W ∧ Blk W w.heap.size (arrK .i64 16 (l16 X)) 39 ∧ Blk W (w.heap.size + 1) (arrK .i64 16 (fun _ => 0)) 39 ∧ Blk W (w.heap.size + 2) (arrK .i64 16 (fun _ => 0)) 39) ⟨(by (repeat' (first | (with_reducible assumption) | (with_reducible exact Below.refl _ _) | (with_reducible refine Below.drew ?_) | (with_reducible refine Below.alloc ?_ ?_ _) | (with_reducible refine below_set ?_ ?_ _ _) | (with_reducible refine below_setRow ?_ ?_ _) | (with_reducible refine below_step ?_ (by assumption) ?_))) <;> (first | omega | ((try simp only [World.size_alloc, World.size_setCell, World.size_drew, size_setRow]); omega))), blk_alloc (blk_alloc (blk_new _ _ rfl) _) _, blk_alloc (blk_new _ _ (by simp)) _, blk_new _ _ (by simp)⟩ ?_
  rintro W0 ⟨bel, k_t1, k_t2, k_t3⟩
  have lt_t1_0 := blk_lt k_t1
  have lt_t2_0 := blk_lt k_t2
  have lt_t3_0 := blk_lt k_t3
  obtain ⟨D, hD⟩ : ∃ v_, v_ = PP - X := ⟨_, rfl⟩
  have HD := Lib.hid hD
  clear hD
  go_wp2_with fail
  go_loopw [4, 5] (fun oo ii wr => ∃ (k : Nat), k ≤ 16 ∧ ii = .int .i64 k ∧ oo = .int .i64 (bor16 PP X k : Int) ∧ Below w.heap.size w wr ∧ Blk wr w.heap.size (arrK .i64 16 (l16 X)) 39 ∧ Blk wr (w.heap.size + 1) (arrK .i64 16 (fun _ => 0)) 39 ∧ Blk wr (w.heap.size + 2) (arrK .i64 16 (mixF k (l16 D) (fun _ => 0))) 39)
    (fun oo ii _ => (16 - intOf ii).toNat)
  case atStart =>
    refine ⟨0, by omega, rfl, by rw [bor16_zero]; rfl, bel, k_t1, k_t2, ?_⟩
    rw [mixF_zero]; exact k_t3
  case round =>
    obtain ⟨k, hk, rfl, rfl, bel, k_t1, k_t2, k_t3⟩ := hrel
    by_cases hexit : k = 16
    · have _hx := hexit
      subst hexit
      rw [mixF_all] at k_t3
      have bD : D < P256 := by rw [HD.out]; exact Nat.lt_of_le_of_lt (Nat.sub_le _ _) PP_lt
      have BD := Lib.hid bD
      clear bD
      go_upto_region 16 with fail
      have lt_t1_1 := blk_lt k_t1
      have lt_t2_1 := blk_lt k_t2
      have lt_t3_1 := blk_lt k_t3
      have c_t := rtidy_c (l16 D) (okF_l16 D)
      rw [sval_one D BD.out] at c_t
      obtain ⟨R, hR⟩ : ∃ v_, v_ = D % PP := ⟨_, rfl⟩
      rw [← hR] at c_t
      have HR := Lib.hid hR
      clear hR
      refine wp_region_pn 2 [] (fun x hx => by cases hx) (by kernel_rfl) ?_
      simp only [List.take_succ_cons, List.take_zero, List.take_nil]
      (try simp only [Act.put, List.setIfInBounds_toArray, List.set_cons_zero, List.set_cons_succ])
      ((with_reducible refine wpX_load (b := ?_) (cs := ?_) ?_ rfl ?_ ?_ ?_ ?_ ?_); rotate_left 2; (focus rfl); (focus rfl); (focus first | assumption | exact blk_rd (by assumption)); (focus kernel_rfl); (focus kernel_rfl); (try simp only [Act.put, List.setIfInBounds_toArray, List.set_cons_zero, List.set_cons_succ]))
      ((with_reducible refine wpX_fn (fun W hW => c_t W) ?_ rfl ?_ ?_ ?_); (focus rfl); (focus kernel_rfl); (focus rfl); (try simp only [Act.put, List.setIfInBounds_toArray, List.set_cons_zero, List.set_cons_succ]))
      refine wpX_nil ?_
      intro β W2 hE hN hD
      simp only [putAll, Act.put, List.setIfInBounds_toArray, List.set_cons_zero, List.set_cons_succ, List.drop_succ_cons, List.drop_zero, List.drop_nil, List.length_cons, List.length_nil]
      clear hN hD β
      refine wpL_store (g := (w.heap.size + 1)) (cells := arrK .i64 16 (l16 R)) (by rfl) rfl rfl rfl (blk_step k_t2 hE) (by kernel_rfl) (by kernel_rfl) (arrK_one _ _ _) ?_
      (try simp only [Act.put, List.setIfInBounds_toArray, List.set_cons_zero, List.set_cons_succ])
      refine wpL_nil ?_
      have hF : Below w.heap.size w (W2.setRow (w.heap.size + 1) (arrK .i64 16 (l16 R))) ∧ Blk (W2.setRow (w.heap.size + 1) (arrK .i64 16 (l16 R))) w.heap.size (arrK .i64 16 (l16 X)) 39 ∧ Blk (W2.setRow (w.heap.size + 1) (arrK .i64 16 (l16 R))) (w.heap.size + 1) (arrK .i64 16 (l16 R)) 39 ∧ Blk (W2.setRow (w.heap.size + 1) (arrK .i64 16 (l16 R))) (w.heap.size + 2) (arrK .i64 16 (l16 D)) 39 := ⟨(below_setRow (below_step bel hE bel.size) (by omega) _), (blk_setRow_other (blk_step k_t1 hE) (by omega) _), (blk_setRow (blk_step k_t2 hE) (arrK .i64 16 (l16 R))), (blk_setRow_other (blk_step k_t3 hE) (by omega) _)⟩
      generalize (W2.setRow (w.heap.size + 1) (arrK .i64 16 (l16 R))) = W3 at hF ⊢
      clear bel k_t1 k_t2 k_t3
      obtain ⟨bel, k_t1, k_t2, k_t3⟩ := hF
      go_wp2
      refine bodyPost_ret (res_row rfl rfl k_t2 (by kernel_rfl) (by kernel_rfl)) rfl ⟨?_, bel⟩
      (rw [← HD.out, ← HR.out] <;> rfl)
    · have hk3 : k < 16 := by omega
      have hk3' : (k : Int) < 16 := by omega
      clear hexit
      have hsp := sub16_parts PP X k HX.out
      rw [← HD.out, l16_PP k hk3] at hsp
      have c0 := (blk_cell k_t3 k).trans (arrK_get _ _ _ _ hk3)
      rw [mixF_at] at c0
      have c1 := (blk_cell k_t1 k).trans (arrK_get _ _ _ _ hk3)
      have f0 := blk_free k_t3
      have lb := l16_ok X k
      have bb := bor16_le PP X k
      have hset : ∀ v, v = l16 D k → (arrK .i64 16 (mixF k (l16 D) (fun _ => 0))).setIfInBounds k (.int .i64 v) = arrK .i64 16 (mixF (k + 1) (l16 D) (fun _ => 0)) := fun v hv => by rw [hv]; exact mixF_set _ _ _ _ _
      have HS := Lib.hid hset
      clear hset
      obtain ⟨bo, hbo⟩ : ∃ v_, v_ = bor16 PP X k := ⟨_, rfl⟩
      rw [← hbo] at hsp bb ⊢
      clear hbo
      by_cases e0 : k = 0
      · subst e0
        rw [if_pos rfl] at hsp
        obtain ⟨x, hx⟩ : ∃ v_, v_ = l16 X 0 := ⟨_, rfl⟩
        obtain ⟨d, hdd⟩ : ∃ v_, v_ = l16 D 0 := ⟨_, rfl⟩
        have lD := l16_ok D 0
        rw [← hx] at c1 hsp lb
        rw [← hdd] at hsp lD
        have HDD := Lib.hid hdd
        clear hx hdd
        rcases hsp with ⟨h1, h2⟩ | ⟨h1, h2, h3⟩
        · have hneg : ¬ 65517 - x - (bo : Int) < 0 := by omega
          have H1 := Lib.hid h1
          have H2 := Lib.hid h2
          clear h1 h2 lD
          go_wp2
          have h1 := H1.out
          go_roundw
          case rel =>
            have hs := (blk_set k_t3 0 (.int .i64 (65517 - x - (bo : Int))))
            rw [HS.out (65517 - x - (bo : Int)) (H2.out.trans HDD.out)] at hs
            refine ⟨0 + 1, by omega, ?_, ?_, ?_, ?_, ?_, hs⟩
            · (first | rfl | go_num)
            · rw [h1]; rfl
            · exact (below_set bel (by omega) _ _)
            · exact (blk_other k_t1 (by omega) _ _)
            · exact (blk_other k_t2 (by omega) _ _)
          case measure => simp [intOf] <;> omega
        · have H1 := Lib.hid h1
          have H2 := Lib.hid h3
          clear h1 h3 lD
          go_wp2
          have h1 := H1.out
          go_roundw
          case rel =>
            have hs := (blk_set (blk_set k_t3 0 (.int .i64 (65517 - x - (bo : Int)))) 0 (.int .i64 (65517 - x - (bo : Int) + 65536)))
            simp only [Array.setIfInBounds_setIfInBounds] at hs
            rw [HS.out (65517 - x - (bo : Int) + 65536) (H2.out.trans HDD.out)] at hs
            refine ⟨0 + 1, by omega, ?_, ?_, ?_, ?_, ?_, hs⟩
            · (first | rfl | go_num)
            · rw [h1]; rfl
            · exact (below_set (below_set bel (by omega) _ _) (by omega) _ _)
            · exact (blk_other (blk_other k_t1 (by omega) _ _) (by omega) _ _)
            · exact (blk_other (blk_other k_t2 (by omega) _ _) (by omega) _ _)
          case measure => simp [intOf] <;> omega
      · rw [if_neg e0] at hsp
        by_cases e15 : k = 15
        · subst e15
          rw [if_pos rfl] at hsp
          clear e0
          obtain ⟨x, hx⟩ : ∃ v_, v_ = l16 X 15 := ⟨_, rfl⟩
          obtain ⟨d, hdd⟩ : ∃ v_, v_ = l16 D 15 := ⟨_, rfl⟩
          have lD := l16_ok D 15
          rw [← hx] at c1 hsp lb
          rw [← hdd] at hsp lD
          have HDD := Lib.hid hdd
          clear hx hdd
          rcases hsp with ⟨h1, h2⟩ | ⟨h1, h2, h3⟩
          · have hneg : ¬ 32767 - x - (bo : Int) < 0 := by omega
            have H1 := Lib.hid h1
            have H2 := Lib.hid h2
            clear h1 h2 lD
            go_wp2
            have h1 := H1.out
            go_roundw
            case rel =>
              have hs := (blk_set k_t3 15 (.int .i64 (32767 - x - (bo : Int))))
              rw [HS.out (32767 - x - (bo : Int)) (H2.out.trans HDD.out)] at hs
              refine ⟨15 + 1, by omega, ?_, ?_, ?_, ?_, ?_, hs⟩
              · (first | rfl | go_num)
              · rw [h1]; rfl
              · exact (below_set bel (by omega) _ _)
              · exact (blk_other k_t1 (by omega) _ _)
              · exact (blk_other k_t2 (by omega) _ _)
            case measure => simp [intOf] <;> omega
          · have H1 := Lib.hid h1
            have H2 := Lib.hid h3
            clear h1 h3 lD
            go_wp2
            have h1 := H1.out
            go_roundw
            case rel =>
              have hs := (blk_set (blk_set k_t3 15 (.int .i64 (32767 - x - (bo : Int)))) 15 (.int .i64 (32767 - x - (bo : Int) + 65536)))
              simp only [Array.setIfInBounds_setIfInBounds] at hs
              rw [HS.out (32767 - x - (bo : Int) + 65536) (H2.out.trans HDD.out)] at hs
              refine ⟨15 + 1, by omega, ?_, ?_, ?_, ?_, ?_, hs⟩
              · (first | rfl | go_num)
              · rw [h1]; rfl
              · exact (below_set (below_set bel (by omega) _ _) (by omega) _ _)
              · exact (blk_other (blk_other k_t1 (by omega) _ _) (by omega) _ _)
              · exact (blk_other (blk_other k_t2 (by omega) _ _) (by omega) _ _)
            case measure => simp [intOf] <;> omega
        · rw [if_neg e15] at hsp
          have p0 : ¬ (k : Int) = 0 := by omega
          have p15 : ¬ (k : Int) = 15 := by omega
          have p0b : ((k : Int) == 0) = false := by rw [beq_eq_false_iff_ne]; omega
          have p15b : ((k : Int) == 15) = false := by rw [beq_eq_false_iff_ne]; omega
          have g6 : (k == 0) = false := by rw [beq_eq_false_iff_ne]; omega
          have g7 : (k == 15) = false := by rw [beq_eq_false_iff_ne]; omega
          obtain ⟨x, hx⟩ : ∃ v_, v_ = l16 X k := ⟨_, rfl⟩
          obtain ⟨d, hdd⟩ : ∃ v_, v_ = l16 D k := ⟨_, rfl⟩
          have lD := l16_ok D k
          rw [← hx] at c1 hsp lb
          rw [← hdd] at hsp lD
          have HDD := Lib.hid hdd
          clear hx hdd
          rcases hsp with ⟨h1, h2⟩ | ⟨h1, h2, h3⟩
          · have hneg : ¬ 65535 - x - (bo : Int) < 0 := by omega
            have H1 := Lib.hid h1
            have H2 := Lib.hid h2
            clear h1 h2 lD
            go_wp2
            have h1 := H1.out
            go_roundw
            case rel =>
              have hs := (blk_set k_t3 k (.int .i64 (65535 - x - (bo : Int))))
              rw [HS.out (65535 - x - (bo : Int)) (H2.out.trans HDD.out)] at hs
              refine ⟨k + 1, by omega, ?_, ?_, ?_, ?_, ?_, hs⟩
              · (first | rfl | go_num)
              · rw [h1]; rfl
              · exact (below_set bel (by omega) _ _)
              · exact (blk_other k_t1 (by omega) _ _)
              · exact (blk_other k_t2 (by omega) _ _)
            case measure => simp [intOf] <;> omega
          · have H1 := Lib.hid h1
            have H2 := Lib.hid h3
            clear h1 h3 lD
            go_wp2
            have h1 := H1.out
            go_roundw
            case rel =>
              have hs := (blk_set (blk_set k_t3 k (.int .i64 (65535 - x - (bo : Int)))) k (.int .i64 (65535 - x - (bo : Int) + 65536)))
              simp only [Array.setIfInBounds_setIfInBounds] at hs
              rw [HS.out (65535 - x - (bo : Int) + 65536) (H2.out.trans HDD.out)] at hs
              refine ⟨k + 1, by omega, ?_, ?_, ?_, ?_, ?_, hs⟩
              · (first | rfl | go_num)
              · rw [h1]; rfl
              · exact (below_set (below_set bel (by omega) _ _) (by omega) _ _)
              · exact (blk_other (blk_other k_t1 (by omega) _ _) (by omega) _ _)
              · exact (blk_other (blk_other k_t2 (by omega) _ _) (by omega) _ _)
            case measure => simp [intOf] <;> omega
set_option maxHeartbeats 4000000 in
theorem rSub_c (X Y : Nat) (hX : X < P256) (hY : Y ≤ PP) (w : World) :
    Calls Tryd.prog 42 #[A16 X, A16 Y] w fun e w' => Ret (A16 ((X + (PP - Y) % PP) % PP)) w w' e := by
  have HX := Lib.hid hX
  have HY := Lib.hid hY
  clear hX hY
  unfold A16
  go_enter Tryd.func42, Tryd.ntmps42
  go_upto_region 1 with fail
  refine wp_world (fun W => Below w.heap.size w W ∧ Blk W w.heap.size (arrK .i64 16 (l16 X)) 39 ∧ Blk W (w.heap.size + 1) (arrK .i64 16 (l16 Y)) 39 ∧ Blk W (w.heap.size + 2) (arrK .i64 16 (fun _ => 0)) 39) ⟨(by (repeat' (first | (with_reducible assumption) | (with_reducible exact Below.refl _ _) | (with_reducible refine Below.drew ?_) | (with_reducible refine Below.alloc ?_ ?_ _) | (with_reducible refine below_set ?_ ?_ _ _) | (with_reducible refine below_setRow ?_ ?_ _) | (with_reducible refine below_step ?_ (by assumption) ?_))) <;> (first | omega | ((try simp only [World.size_alloc, World.size_setCell, World.size_drew, size_setRow]); omega))), blk_alloc (blk_alloc (blk_new _ _ rfl) _) _, blk_alloc (blk_new _ _ (by simp)) _, blk_new _ _ (by simp)⟩ ?_
  rintro W0 ⟨bel, k_t2, k_t3, k_t4⟩
  have lt_t2_0 := blk_lt k_t2
  have lt_t3_0 := blk_lt k_t3
  have lt_t4_0 := blk_lt k_t4
  have c_n := rNeg_c Y HY.out
  obtain ⟨M, hM⟩ : ∃ v_, v_ = (PP - Y) % PP := ⟨_, rfl⟩
  rw [← hM] at c_n
  have HM := Lib.hid hM
  have bM : M < P256 := by rw [hM]; exact mod_256 _
  have BM := Lib.hid bM
  clear hM bM
  have c_a := rAdd_c X M HX.out BM.out
  obtain ⟨S, hS⟩ : ∃ v_, v_ = (X + M) % PP := ⟨_, rfl⟩
  rw [← hS] at c_a
  have HSS := Lib.hid hS
  clear hS
  refine wp_region_xn 4 [] (by kernel_rfl) (fun x hx => by cases hx) (by kernel_rfl) ?_
  simp only [List.take_succ_cons, List.take_zero, List.take_nil]
  (try simp only [Act.put, List.setIfInBounds_toArray, List.set_cons_zero, List.set_cons_succ])
  ((with_reducible refine wpX_load (b := ?_) (cs := ?_) ?_ rfl ?_ ?_ ?_ ?_ ?_); rotate_left 2; (focus rfl); (focus rfl); (focus first | assumption | exact blk_rd (by assumption)); (focus kernel_rfl); (focus kernel_rfl); (try simp only [Act.put, List.setIfInBounds_toArray, List.set_cons_zero, List.set_cons_succ]))
  ((with_reducible refine wpX_load (b := ?_) (cs := ?_) ?_ rfl ?_ ?_ ?_ ?_ ?_); rotate_left 2; (focus rfl); (focus rfl); (focus first | assumption | exact blk_rd (by assumption)); (focus kernel_rfl); (focus kernel_rfl); (try simp only [Act.put, List.setIfInBounds_toArray, List.set_cons_zero, List.set_cons_succ]))
  ((with_reducible refine wpX_fn (fun W hW => c_n W) ?_ rfl ?_ ?_ ?_); (focus rfl); (focus kernel_rfl); (focus rfl); (try simp only [Act.put, List.setIfInBounds_toArray, List.set_cons_zero, List.set_cons_succ]))
  ((with_reducible refine wpX_fn (fun W hW => c_a W) ?_ rfl ?_ ?_ ?_); (focus rfl); (focus kernel_rfl); (focus rfl); (try simp only [Act.put, List.setIfInBounds_toArray, List.set_cons_zero, List.set_cons_succ]))
  refine wpX_nil ?_
  intro β W1 hE hN hD
  simp only [putAll, Act.put, List.setIfInBounds_toArray, List.set_cons_zero, List.set_cons_succ, List.drop_succ_cons, List.drop_zero, List.drop_nil, List.length_cons, List.length_nil]
  clear hN hD β
  refine wpL_store (g := (w.heap.size + 2)) (cells := arrK .i64 16 (l16 S)) (by rfl) rfl rfl rfl (blk_step k_t4 hE) (by kernel_rfl) (by kernel_rfl) (arrK_one _ _ _) ?_
  (try simp only [Act.put, List.setIfInBounds_toArray, List.set_cons_zero, List.set_cons_succ])
  refine wpL_nil ?_
  refine NoPanic.normal (Q := Exit.then _ _) ?_
  have hF : Below w.heap.size w (W1.setRow (w.heap.size + 2) (arrK .i64 16 (l16 S))) ∧ Blk (W1.setRow (w.heap.size + 2) (arrK .i64 16 (l16 S))) w.heap.size (arrK .i64 16 (l16 X)) 39 ∧ Blk (W1.setRow (w.heap.size + 2) (arrK .i64 16 (l16 S))) (w.heap.size + 1) (arrK .i64 16 (l16 Y)) 39 ∧ Blk (W1.setRow (w.heap.size + 2) (arrK .i64 16 (l16 S))) (w.heap.size + 2) (arrK .i64 16 (l16 S)) 39 := ⟨(below_setRow (below_step bel hE bel.size) (by omega) _), (blk_setRow_other (blk_step k_t2 hE) (by omega) _), (blk_setRow_other (blk_step k_t3 hE) (by omega) _), (blk_setRow (blk_step k_t4 hE) (arrK .i64 16 (l16 S)))⟩
  generalize (W1.setRow (w.heap.size + 2) (arrK .i64 16 (l16 S))) = W2 at hF ⊢
  clear bel k_t2 k_t3 k_t4
  obtain ⟨bel, k_t2, k_t3, k_t4⟩ := hF
  go_wp2
  refine bodyPost_ret (res_row rfl rfl k_t4 (by kernel_rfl) (by kernel_rfl)) rfl ⟨?_, bel⟩
  (rw [← HM.out, ← HSS.out] <;> rfl)
end Go.Proofs.YtghajiagbfcmdaaDoor
