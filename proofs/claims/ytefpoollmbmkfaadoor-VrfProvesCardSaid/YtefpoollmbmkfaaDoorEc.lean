/- custumalref05.carry. Conditions: no part is less than nought or more than 2^50. custumalref05.tidy. Conditions: no part is less than nought or more than 2^50. custumalref05.Add, Of, Parts. No conditions. custumalref05.Of and Parts. No conditions. custumalref05.Neg, Sub. Conditions: the number is not beyond the modulus. custumalref05.Mul. No conditions. -/
import Derived.Test.YtefpoollmbmkfaaDoorGc
import Derived.Test.YtefpoollmbmkfaaDoorGa
import Derived.Test.YtefpoollmbmkfaaDoorGb
import Derived.Test.YtefpoollmbmkfaaDoorEa
set_option linter.unusedSimpArgs false
set_option linter.unusedVariables false
namespace Go.Proofs.YtefpoollmbmkfaaDoor
set_option maxHeartbeats 4000000
set_option maxRecDepth 100000
open Go.RowKit

theorem rcarry_c (f : Nat → Int) (hf : okF f) (w : World) :
  Calls Tryd.prog 122 #[.agg (arrK .i64 16 f)] w fun e w' => Ret (.agg (arrK .i64 16 (l16 (cr (cr (sval f 16)))))) w w' e := by
 go_enter Tryd.func122, Tryd.ntmps122
 go_wp2_with fail
 refine wn2 (c1 := (arrK .i64 16 (f))) (t1 := 76) (c2 := (arrK .i64 16 (fun _ => 0))) (t2 := 76) fun W0 bel k_t1 k_t2 => ?_
 have lt_t1_0 := blk_lt k_t1
 have lt_t2_0 := blk_lt k_t2
 have HF := Lib.hid hf
 clear hf
 go_wp2_with fail
 go_loopw [3] (fun tt wr => ∃ (t : Nat) (fr : Nat → Int), t ≤ 3 ∧ tt = .int .i64 t ∧ fr = nxts f t ∧ Below w.heap.size w wr ∧ Blk wr w.heap.size (arrK .i64 16 fr) 76 ∧ Blk wr (w.heap.size + 1) (arrK .i64 16 (fun _ => 0)) 76)
  (fun tt _ => (3 - intOf tt).toNat)
 case atStart =>
  exact ⟨0, f, by omega, rfl, rfl, bel, k_t1, k_t2⟩
 case round =>
  obtain ⟨t, fr, ht, rfl, hfr, bel, k_t1, k_t2⟩ := hrel
  have hfr' := nxts_ok f HF.out t
  rw [← hfr] at hfr'
  have HR := Lib.hid hfr'
  have HE := Lib.hid hfr
  clear hfr' hfr
  by_cases hexit : t = 3
  ·
   have _hx := hexit
   subst hexit
   go_upto_region 12 with fail
   have lt_t1_1 := blk_lt k_t1
   have lt_t2_1 := blk_lt k_t2
   refine Px 1 ?_
   refine XL ?_
   refine wpX_nil fun W2 hE => ?_
   refine Lp ?_ (blk_step k_t2 hE) (cells := arrK .i64 16 (fr)) (h1 := (arrK_one _ _ _))
   intro W3 hO h_
   refine wpL_nil ?_
   replace k_t1 := ko k_t1 hE hO (by omega)
   replace k_t2 := h_
   replace bel := bwo bel hE hO bel.size (by omega)
   clear hO h_
   go_wp2
   refine bodyPost_ret (res_row rfl rfl k_t2 (by kernel_rfl) (by kernel_rfl)) rfl ⟨?_, bel⟩
   rw [HE.out, nxts3 f HF.out]
  ·
   have ht3 : t < 3 := by omega
   clear hexit
   have lt_t1_1 := blk_lt k_t1
   have lt_t2_1 := blk_lt k_t2
   obtain ⟨wo, rfl⟩ : ∃ wo : World, wo = wr := ⟨_, rfl⟩
   go_wp2_with fail
   go_loopw [4, 5] (fun oo ii wr => ∃ (k : Nat), k ≤ 16 ∧ ii = .int .i64 k ∧ oo = .int .i64 (ovr fr k : Int) ∧ Below w.heap.size w wr ∧ Blk wr w.heap.size (arrK .i64 16 (mixF k (l16 (sval fr 16)) fr)) 76 ∧ Blk wr (w.heap.size + 1) (arrK .i64 16 (fun _ => 0)) 76)
    (fun oo ii _ => (16 - intOf ii).toNat)
   case atStart =>
    rw [← mixF_zero (l16 (sval fr 16)) fr] at k_t1
    refine ⟨0, by omega, rfl, ?_, bel, k_t1, k_t2⟩
    rw [ovr_zero]; rfl
   case round =>
    obtain ⟨k, hk, rfl, rfl, bel, k_t1, k_t2⟩ := hrel
    by_cases hexit : k = 16
    ·
     have _hx := hexit
     subst hexit
     rw [mixF_all] at k_t1
     have c0 := (blk_cell k_t1 0).trans (arrK_get _ _ _ _ (by omega))
     have f0 := blk_free k_t1
     have b1 := l16_ok (sval fr 16) 0
     have b2 := ovr_le fr 1125899906842624 (fun j => (HR.out j).2) 16
     go_wp2
     have hs := blk_set k_t1 0 (.int .i64 (l16 (sval fr 16) 0 + 38 * (ovr fr 16 : Int)))
     rw [arrK_set] at hs
     go_roundw
     case rel =>
      exact ⟨t + 1, nxt fr, by omega, by go_num, by rw [HE.out]; rfl, below_set bel (by omega) _ _, hs, blk_other k_t2 (by omega) _ _⟩
     case measure => simp [intOf]; omega
    ·
     have hk3 : k < 16 := by omega
     have hk3' : (k : Int) < 16 := by omega
     clear hexit
     obtain ⟨s1, s2⟩ := car_parts fr HR.out k hk3
     have c0 := (blk_cell k_t1 k).trans (arrK_get _ _ _ _ hk3)
     rw [mixF_at] at c0
     have f0 := blk_free k_t1
     obtain ⟨l0, l1⟩ := HR.out k
     have l2 := ovr_le fr 1125899906842624 (fun j => (HR.out j).2) k
     go_wp2
     have hs := blk_set k_t1 k (.int .i64 (l16 (sval fr 16) k))
     rw [mixF_set] at hs
     go_roundw
     case rel => exact ⟨k + 1, by omega, by go_num, rfl, below_set bel (by omega) _ _, hs, blk_other k_t2 (by omega) _ _⟩
     case measure => simp [intOf]; omega
end Go.Proofs.YtefpoollmbmkfaaDoor

namespace Go.Proofs.YtefpoollmbmkfaaDoor
set_option maxHeartbeats 4000000
set_option maxRecDepth 100000
open Go.RowKit

theorem sub16_parts (X Y k : Nat) (h : Y ≤ X) :
    (bor16 X Y (k + 1) = 0 ∧ l16 X k - l16 Y k - (bor16 X Y k : Int) = l16 (X - Y) k) ∨
     (bor16 X Y (k + 1) = 1 ∧ l16 X k - l16 Y k - (bor16 X Y k : Int) < 0 ∧ l16 X k - l16 Y k - (bor16 X Y k : Int) + 65536 = l16 (X - Y) k) := by
  have r1 := l16_ok X k
  have r2 := l16_ok Y k
  have r3 := bor16_le X Y k
  have r4 := l16_ok (X - Y) k
  have r5 := bor16_le X Y (k + 1)
  have hs := sub16_step X Y k h
  rcases Nat.lt_or_ge (bor16 X Y (k + 1)) 1 with h0 | h1
  · rw [show bor16 X Y (k + 1) = 0 by omega] at hs ⊢; exact .inl ⟨rfl, by omega⟩
  · rw [show bor16 X Y (k + 1) = 1 by omega] at hs ⊢; exact .inr ⟨rfl, by omega, by omega⟩
theorem l16_PP : ∀ k, k < 16 → l16 PP k = if k = 0 then 65517 else if k = 15 then 32767 else 65535 := by
  intro k hk
  have : k = 0 ∨ k = 1 ∨ k = 2 ∨ k = 3 ∨ k = 4 ∨ k = 5 ∨ k = 6 ∨ k = 7 ∨ k = 8 ∨ k = 9 ∨ k = 10 ∨ k = 11 ∨ k = 12 ∨ k = 13 ∨ k = 14 ∨ k = 15 := by omega
  rcases this with rfl | rfl | rfl | rfl | rfl | rfl | rfl | rfl | rfl | rfl | rfl | rfl | rfl | rfl | rfl | rfl <;> decide +kernel
theorem l16_more (N k : Nat) (hk : k < 16) : l16 (N + P256) k = l16 N k := by
  unfold l16
  obtain ⟨d, hd⟩ : ∃ d, P256 = 2 ^ (16 * k) * (65536 * 2 ^ d) := ⟨16 * (15 - k), by
    rw [show (65536 : Nat) = 2 ^ 16 by decide, ← Nat.pow_add, ← Nat.pow_add, show 16 * k + (16 + 16 * (15 - k)) = 256 by omega]; decide⟩
  rw [hd, Nat.add_mul_div_left _ _ (Nat.two_pow_pos _), Nat.add_mul_mod_self_left]
theorem bor_end (N : Nat) (hN : N < P256) : bor16 (N + P256) PP 16 = if N < PP then 1 else 0 := by
  unfold bor16
  rw [show (2 : Nat) ^ (16 * 16) = P256 by decide, Nat.add_mod_right, Nat.mod_eq_of_lt hN, Nat.mod_eq_of_lt PP_lt]
theorem dig_end (N : Nat) (hN : N < P256) (h : ¬ N < PP) : arrK .i64 16 (l16 (N + P256 - PP)) = arrK .i64 16 (l16 (N - PP)) := by
  apply arrK_congr
  intro j hj
  rw [show N + P256 - PP = (N - PP) + P256 by omega, l16_more _ _ hj]
theorem cr_mod (V : Nat) : cr V % PP = V % PP := by
  unfold cr
  have hd := Nat.div_add_mod V P256
  conv => rhs; rw [← hd]
  rw [show P256 = 2 * PP + 38 from PP_two.symm, show (2 * PP + 38) * (V / (2 * PP + 38)) + V % (2 * PP + 38) = V % (2 * PP + 38) + 38 * (V / (2 * PP + 38)) + PP * (2 * (V / (2 * PP + 38))) by rw [Nat.add_mul, Nat.mul_left_comm PP, Nat.mul_assoc]; omega, Nat.add_mul_mod_self_left]

theorem rtidy_c (f : Nat → Int) (hf : okF f) (w : World) :
  Calls Tryd.prog 117 #[.agg (arrK .i64 16 f)] w fun e w' => Ret (A16 (sval f 16 % PP)) w w' e := by
 go_enter Tryd.func117, Tryd.ntmps117
 go_upto_region 1 with fail
 refine wn2 (c1 := (arrK .i64 16 (f))) (t1 := 76) (c2 := (arrK .i64 16 (fun _ => 0))) (t2 := 76) fun W0 bel k_t1 k_t2 => ?_
 have lt_t1_0 := blk_lt k_t1
 have lt_t2_0 := blk_lt k_t2
 have c_c := rcarry_c f hf
 obtain ⟨W, hW⟩ := exn (cr (cr (sval f 16)))
 rw [← hW] at c_c
 have bW : W < P256 := by rw [hW]; exact cr_cr_lt _ (sval_lt f hf 16)
 have HW := Lib.hid hW
 have BW := Lib.hid bW
 clear hW bW
 refine Px 2 ?_
 refine XL ?_
 refine Xf ?_ (fun W hW => c_c W)
 refine wpX_nil fun W1 hE => ?_
 refine LS ?_ (blk_step k_t1 hE) (g := w.heap.size) (cells := arrK .i64 16 (l16 W)) (h1 := (arrK_one _ _ _))
 refine wpL_nil ?_
 have hF : Below w.heap.size w (W1.setRow w.heap.size (arrK .i64 16 (l16 W))) ∧ Blk (W1.setRow w.heap.size (arrK .i64 16 (l16 W))) w.heap.size (arrK .i64 16 (l16 W)) 76 ∧ Blk (W1.setRow w.heap.size (arrK .i64 16 (l16 W))) (w.heap.size + 1) (arrK .i64 16 (fun _ => 0)) 76 := ⟨(below_setRow (below_step bel hE bel.size) (by omega) _), (blk_setRow (blk_step k_t1 hE) (arrK .i64 16 (l16 W))), (blk_setRow_other (blk_step k_t2 hE) (by omega) _)⟩
 generalize (W1.setRow w.heap.size (arrK .i64 16 (l16 W))) = W2 at hF ⊢
 clear bel k_t1 k_t2
 obtain ⟨bel, k_t1, k_t2⟩ := hF
 have lt_t1_2 := blk_lt k_t1
 have lt_t2_2 := blk_lt k_t2
 go_wp2_with fail
 go_loopw [3] (fun tt wr => ∃ (t N : Nat), t ≤ 3 ∧ tt = .int .i64 t ∧ N + t * PP = W ∧ Below w.heap.size w wr ∧ Blk wr w.heap.size (arrK .i64 16 (l16 N)) 76 ∧ Blk wr (w.heap.size + 1) (arrK .i64 16 (fun _ => 0)) 76)
  (fun tt _ => (3 - intOf tt).toNat)
 case atStart =>
  exact ⟨0, W, by omega, rfl, by omega, bel, k_t1, k_t2⟩
 case round =>
  obtain ⟨t, N, ht, rfl, hN, bel, k_t1, k_t2⟩ := hrel
  have bN : N < P256 := by have := BW.out; omega
  have HN := Lib.hid hN
  have BN := Lib.hid bN
  clear hN bN
  obtain ⟨M, hM⟩ := exn (N + P256)
  obtain ⟨D, hD⟩ := exn (N + P256 - PP)
  have HM := Lib.hid hM
  have HDD := Lib.hid hD
  clear hM hD
  by_cases hexit : t = 3
  ·
   have _hx := hexit
   exfalso
   have := HN.out
   have := BW.out
   subst hexit
   unfold P256 PP at *; omega
  ·
   have ht3 : t < 3 := by omega
   clear hexit
   by_cases hlt : N < PP
   ·
    have HL := Lib.hid hlt
    clear hlt
    go_upto_region 5 with fail
    have lt_t1_3 := blk_lt k_t1
    have lt_t2_3 := blk_lt k_t2
    refine Px1 1 4 (z := arrK .i64 16 (fun _ => 0)) (t := 76) ?_
    refine XL ?_
    refine XN ?_
    intro p4_4 W4 n_t4_4 hE k_t4
    have sz_4 := bel.size
    skip
    refine Lp ?_ k_t4 (cells := arrK .i64 16 (l16 N)) (h1 := (arrK_one _ _ _))
    intro W5 hO h_
    refine wpL_nil ?_
    replace k_t1 := ko k_t1 hE hO (by omega)
    replace k_t2 := ko k_t2 hE hO (by omega)
    replace k_t4 := h_
    replace bel := bwo bel hE hO bel.size (by omega)
    clear hO h_
    have c0 := (blk_cell k_t4 0).trans (arrK_get _ _ _ _ (by omega))
    have f0 := blk_free k_t4
    have lb := l16_ok N 0
    go_wp2_with fail
    have hs := blk_set k_t4 0 (.int .i64 (l16 N 0 - 65517))
    rw [arrK_set] at hs
    have hF := And.intro (below_set bel (show w.heap.size ≤ p4_4 by omega) 0 (.int .i64 (l16 N 0 - 65517))) (And.intro (blk_other k_t1 (show w.heap.size ≠ p4_4 by omega) 0 (.int .i64 (l16 N 0 - 65517))) (And.intro (blk_other k_t2 (show w.heap.size + 1 ≠ p4_4 by omega) 0 (.int .i64 (l16 N 0 - 65517))) hs))
    generalize W5.setCell ⟨p4_4, 0, none⟩ (.int .i64 (l16 N 0 - 65517)) = Wm at hF ⊢
    clear bel k_t1 k_t2 k_t4 c0 f0 lb hs
    obtain ⟨bel, k_t1, k_t2, k_t4⟩ := hF
    have lt_t4_5 := blk_lt k_t4
    go_wp2_with fail
    go_loopw [5, 6] (fun oo ii wr => ∃ (k : Nat), k ≤ 16 ∧ ii = .int .i64 k ∧ oo = .int .i64 (bor16 M PP k : Int) ∧ Below w.heap.size w wr ∧ Blk wr w.heap.size (arrK .i64 16 (l16 N)) 76 ∧ Blk wr (w.heap.size + 1) (arrK .i64 16 (fun _ => 0)) 76 ∧ Blk wr p4_4 (arrK .i64 16 (mixF k (l16 D) (upd (l16 N) 0 (l16 N 0 - 65517)))) 76)
     (fun oo ii _ => (16 - intOf ii).toNat)
    case atStart =>
     refine ⟨0, by omega, rfl, by rw [bor16_zero]; rfl, bel, k_t1, k_t2, ?_⟩
     rw [mixF_zero]
     exact k_t4
    case round =>
     obtain ⟨k, hk, rfl, rfl, bel, k_t1, k_t2, k_t4⟩ := hrel
     by_cases hexit : k = 16
     ·
      have _hx := hexit
      subst hexit
      rw [mixF_all] at k_t4
      have hbe := bor_end N BN.out
      rw [← HM.out] at hbe
      (first | rw [if_pos HL.out] at hbe | rw [if_neg HL.out] at hbe)
      rw [hbe]
      clear hbe
      go_upto_region 21 with fail
      have lt_t1_6 := blk_lt k_t1
      have lt_t2_6 := blk_lt k_t2
      have lt_t4_6 := blk_lt k_t4
      refine Px 1 ?_
      refine XL ?_
      refine wpX_nil fun W7 hE => ?_
      refine Lp ?_ (blk_step k_t2 hE) (cells := arrK .i64 16 (l16 N)) (h1 := (arrK_one _ _ _))
      intro W8 hO h_
      refine wpL_nil ?_
      replace k_t1 := ko k_t1 hE hO (by omega)
      replace k_t2 := h_
      replace k_t4 := ko k_t4 hE hO (by omega)
      replace bel := bwo bel hE hO bel.size (by omega)
      clear hO h_
      go_wp2
      refine bodyPost_ret (res_row rfl rfl k_t2 (by kernel_rfl) (by kernel_rfl)) rfl ⟨?_, bel⟩
      rw [show sval f 16 % PP = N by rw [← cr_mod (sval f 16), ← cr_mod (cr (sval f 16)), ← HW.out, ← HN.out, Nat.add_mul_mod_self_right, Nat.mod_eq_of_lt HL.out]]; rfl
     ·
      have hk3 : k < 16 := by omega
      have hk3' : (k : Int) < 16 := by omega
      clear hexit
      have hsp := sub16_parts M PP k (by rw [HM.out]; unfold P256 PP; omega)
      rw [show M - PP = D by rw [HM.out, HDD.out], show l16 M k = l16 N k by rw [HM.out, l16_more N k hk3], l16_PP k hk3] at hsp
      have c0 := (blk_cell k_t4 k).trans (arrK_get _ _ _ _ hk3)
      rw [mixF_at] at c0
      have f0 := blk_free k_t4
      have lb := l16_ok N k
      have bb := bor16_le M PP k
      have hset : ∀ v, v = l16 D k → (arrK .i64 16 (mixF k (l16 D) (upd (l16 N) 0 (l16 N 0 - 65517)))).setIfInBounds k (.int .i64 v) = arrK .i64 16 (mixF (k + 1) (l16 D) (upd (l16 N) 0 (l16 N 0 - 65517))) := fun v hv => by rw [hv]; exact mixF_set _ _ _ _ _
      have HS := Lib.hid hset
      clear hset
      obtain ⟨bo, hbo⟩ := exn (bor16 M PP k)
      rw [← hbo] at hsp bb ⊢
      clear hbo
      by_cases e0 : k = 0
      ·
       subst e0
       rw [if_pos rfl] at hsp
       have hu : upd (l16 N) 0 (l16 N 0 - 65517) 0 = l16 N 0 - 65517 := upd_same _ _ _
       rw [hu] at c0
       clear hu
       obtain ⟨x, hx⟩ := exn (l16 N 0)
       obtain ⟨d, hdd⟩ := exn (l16 D 0)
       have lD := l16_ok D 0
       rw [← hx] at c0 hsp lb
       rw [← hdd] at hsp lD
       have HD := Lib.hid hdd
       clear hx hdd
       rcases hsp with ⟨h1, h2⟩ | ⟨h1, h2, h3⟩
       ·
        have hneg : ¬ x - 65517 - (bo : Int) < 0 := by omega
        have H1 := Lib.hid h1
        have H2 := Lib.hid h2
        clear h1 h2 lD
        go_wp2
        have h1 := H1.out
        go_roundw
        case rel =>
         have hs := (blk_set k_t4 0 (.int .i64 (x - 65517 - (bo : Int))))
         rw [HS.out (x - 65517 - (bo : Int)) (H2.out.trans HD.out)] at hs
         refine ⟨0 + 1, by omega, ?_, ?_, ?_, ?_, ?_, hs⟩
         ·
          go_num
         ·
          rw [h1]; rfl
         ·
          exact (below_set bel (by omega) _ _)
         ·
          exact (blk_other k_t1 (by omega) _ _)
         ·
          exact (blk_other k_t2 (by omega) _ _)
        case measure => simp [intOf] <;> omega
       ·
        have H1 := Lib.hid h1
        have H2 := Lib.hid h3
        clear h1 h3 lD
        go_wp2
        have h1 := H1.out
        go_roundw
        case rel =>
         have hs := (blk_set (blk_set k_t4 0 (.int .i64 (x - 65517 - (bo : Int)))) 0 (.int .i64 (x - 65517 - (bo : Int) + 65536)))
         simp only [Array.setIfInBounds_setIfInBounds] at hs
         rw [HS.out (x - 65517 - (bo : Int) + 65536) (H2.out.trans HD.out)] at hs
         refine ⟨0 + 1, by omega, ?_, ?_, ?_, ?_, ?_, hs⟩
         ·
          go_num
         ·
          rw [h1]; rfl
         ·
          exact (below_set (below_set bel (by omega) _ _) (by omega) _ _)
         ·
          exact (blk_other (blk_other k_t1 (by omega) _ _) (by omega) _ _)
         ·
          exact (blk_other (blk_other k_t2 (by omega) _ _) (by omega) _ _)
        case measure => simp [intOf] <;> omega
      ·
       rw [if_neg e0] at hsp
       rw [upd_other _ _ _ _ e0] at c0
       by_cases e15 : k = 15
       ·
        subst e15
        rw [if_pos rfl] at hsp
        clear e0
        obtain ⟨x, hx⟩ := exn (l16 N 15)
        obtain ⟨d, hdd⟩ := exn (l16 D 15)
        have lD := l16_ok D 15
        rw [← hx] at c0 hsp lb
        rw [← hdd] at hsp lD
        have HD := Lib.hid hdd
        clear hx hdd
        rcases hsp with ⟨h1, h2⟩ | ⟨h1, h2, h3⟩
        ·
         have hneg : ¬ x - 32767 - (bo : Int) < 0 := by omega
         have H1 := Lib.hid h1
         have H2 := Lib.hid h2
         clear h1 h2 lD
         go_wp2
         have h1 := H1.out
         go_roundw
         case rel =>
          have hs := (blk_set (blk_set k_t4 15 (.int .i64 (x - 32767))) 15 (.int .i64 (x - 32767 - (bo : Int))))
          simp only [Array.setIfInBounds_setIfInBounds] at hs
          rw [HS.out (x - 32767 - (bo : Int)) (H2.out.trans HD.out)] at hs
          refine ⟨15 + 1, by omega, ?_, ?_, ?_, ?_, ?_, hs⟩
          ·
           go_num
          ·
           rw [h1]; rfl
          ·
           exact (below_set (below_set bel (by omega) _ _) (by omega) _ _)
          ·
           exact (blk_other (blk_other k_t1 (by omega) _ _) (by omega) _ _)
          ·
           exact (blk_other (blk_other k_t2 (by omega) _ _) (by omega) _ _)
         case measure => simp [intOf] <;> omega
        ·
         have H1 := Lib.hid h1
         have H2 := Lib.hid h3
         clear h1 h3 lD
         go_wp2
         have h1 := H1.out
         go_roundw
         case rel =>
          have hs := (blk_set (blk_set (blk_set k_t4 15 (.int .i64 (x - 32767))) 15 (.int .i64 (x - 32767 - (bo : Int)))) 15 (.int .i64 (x - 32767 - (bo : Int) + 65536)))
          simp only [Array.setIfInBounds_setIfInBounds] at hs
          rw [HS.out (x - 32767 - (bo : Int) + 65536) (H2.out.trans HD.out)] at hs
          refine ⟨15 + 1, by omega, ?_, ?_, ?_, ?_, ?_, hs⟩
          ·
           go_num
          ·
           rw [h1]; rfl
          ·
           exact (below_set (below_set (below_set bel (by omega) _ _) (by omega) _ _) (by omega) _ _)
          ·
           exact (blk_other (blk_other (blk_other k_t1 (by omega) _ _) (by omega) _ _) (by omega) _ _)
          ·
           exact (blk_other (blk_other (blk_other k_t2 (by omega) _ _) (by omega) _ _) (by omega) _ _)
         case measure => simp [intOf] <;> omega
       ·
        rw [if_neg e15] at hsp
        have p0 : (0 : Int) < (k : Int) := by omega
        have p15 : (k : Int) < 15 := by omega
        have p15b : ((k : Int) == 15) = false := by rw [beq_eq_false_iff_ne]; omega
        have g1 : decide ((0 : Int) < (k : Int)) = true := decide_eq_true p0
        have g2 : decide ((k : Int) < 15) = true := decide_eq_true p15
        have g3 : 0 < k := by omega
        have g4 : decide (0 < k) = true := decide_eq_true g3
        have g5 : k < 15 := by omega
        have g6 : decide (k < 15) = true := decide_eq_true g5
        have g7 : (k == 15) = false := by rw [beq_eq_false_iff_ne]; omega
        clear e0 e15
        obtain ⟨x, hx⟩ := exn (l16 N k)
        obtain ⟨d, hdd⟩ := exn (l16 D k)
        have lD := l16_ok D k
        rw [← hx] at c0 hsp lb
        rw [← hdd] at hsp lD
        have HD := Lib.hid hdd
        clear hx hdd
        rcases hsp with ⟨h1, h2⟩ | ⟨h1, h2, h3⟩
        ·
         have hneg : ¬ x - 65535 - (bo : Int) < 0 := by omega
         have H1 := Lib.hid h1
         have H2 := Lib.hid h2
         clear h1 h2 lD
         go_wp2
         have h1 := H1.out
         go_roundw
         case rel =>
          have hs := (blk_set (blk_set k_t4 k (.int .i64 (x - 65535))) k (.int .i64 (x - 65535 - (bo : Int))))
          simp only [Array.setIfInBounds_setIfInBounds] at hs
          rw [HS.out (x - 65535 - (bo : Int)) (H2.out.trans HD.out)] at hs
          refine ⟨k + 1, by omega, ?_, ?_, ?_, ?_, ?_, hs⟩
          ·
           go_num
          ·
           rw [h1]; rfl
          ·
           exact (below_set (below_set bel (by omega) _ _) (by omega) _ _)
          ·
           exact (blk_other (blk_other k_t1 (by omega) _ _) (by omega) _ _)
          ·
           exact (blk_other (blk_other k_t2 (by omega) _ _) (by omega) _ _)
         case measure => simp [intOf] <;> omega
        ·
         have H1 := Lib.hid h1
         have H2 := Lib.hid h3
         clear h1 h3 lD
         go_wp2
         have h1 := H1.out
         go_roundw
         case rel =>
          have hs := (blk_set (blk_set (blk_set k_t4 k (.int .i64 (x - 65535))) k (.int .i64 (x - 65535 - (bo : Int)))) k (.int .i64 (x - 65535 - (bo : Int) + 65536)))
          simp only [Array.setIfInBounds_setIfInBounds] at hs
          rw [HS.out (x - 65535 - (bo : Int) + 65536) (H2.out.trans HD.out)] at hs
          refine ⟨k + 1, by omega, ?_, ?_, ?_, ?_, ?_, hs⟩
          ·
           go_num
          ·
           rw [h1]; rfl
          ·
           exact (below_set (below_set (below_set bel (by omega) _ _) (by omega) _ _) (by omega) _ _)
          ·
           exact (blk_other (blk_other (blk_other k_t1 (by omega) _ _) (by omega) _ _) (by omega) _ _)
          ·
           exact (blk_other (blk_other (blk_other k_t2 (by omega) _ _) (by omega) _ _) (by omega) _ _)
         case measure => simp [intOf] <;> omega
   ·
    have HL := Lib.hid hlt
    clear hlt
    go_upto_region 5 with fail
    have lt_t1_3 := blk_lt k_t1
    have lt_t2_3 := blk_lt k_t2
    refine Px1 1 4 (z := arrK .i64 16 (fun _ => 0)) (t := 76) ?_
    refine XL ?_
    refine XN ?_
    intro p4_4 W4 n_t4_4 hE k_t4
    have sz_4 := bel.size
    skip
    refine Lp ?_ k_t4 (cells := arrK .i64 16 (l16 N)) (h1 := (arrK_one _ _ _))
    intro W5 hO h_
    refine wpL_nil ?_
    replace k_t1 := ko k_t1 hE hO (by omega)
    replace k_t2 := ko k_t2 hE hO (by omega)
    replace k_t4 := h_
    replace bel := bwo bel hE hO bel.size (by omega)
    clear hO h_
    have c0 := (blk_cell k_t4 0).trans (arrK_get _ _ _ _ (by omega))
    have f0 := blk_free k_t4
    have lb := l16_ok N 0
    go_wp2_with fail
    have hs := blk_set k_t4 0 (.int .i64 (l16 N 0 - 65517))
    rw [arrK_set] at hs
    have hF := And.intro (below_set bel (show w.heap.size ≤ p4_4 by omega) 0 (.int .i64 (l16 N 0 - 65517))) (And.intro (blk_other k_t1 (show w.heap.size ≠ p4_4 by omega) 0 (.int .i64 (l16 N 0 - 65517))) (And.intro (blk_other k_t2 (show w.heap.size + 1 ≠ p4_4 by omega) 0 (.int .i64 (l16 N 0 - 65517))) hs))
    generalize W5.setCell ⟨p4_4, 0, none⟩ (.int .i64 (l16 N 0 - 65517)) = Wm at hF ⊢
    clear bel k_t1 k_t2 k_t4 c0 f0 lb hs
    obtain ⟨bel, k_t1, k_t2, k_t4⟩ := hF
    have lt_t4_5 := blk_lt k_t4
    go_wp2_with fail
    go_loopw [5, 6] (fun oo ii wr => ∃ (k : Nat), k ≤ 16 ∧ ii = .int .i64 k ∧ oo = .int .i64 (bor16 M PP k : Int) ∧ Below w.heap.size w wr ∧ Blk wr w.heap.size (arrK .i64 16 (l16 N)) 76 ∧ Blk wr (w.heap.size + 1) (arrK .i64 16 (fun _ => 0)) 76 ∧ Blk wr p4_4 (arrK .i64 16 (mixF k (l16 D) (upd (l16 N) 0 (l16 N 0 - 65517)))) 76)
     (fun oo ii _ => (16 - intOf ii).toNat)
    case atStart =>
     refine ⟨0, by omega, rfl, by rw [bor16_zero]; rfl, bel, k_t1, k_t2, ?_⟩
     rw [mixF_zero]
     exact k_t4
    case round =>
     obtain ⟨k, hk, rfl, rfl, bel, k_t1, k_t2, k_t4⟩ := hrel
     by_cases hexit : k = 16
     ·
      have _hx := hexit
      subst hexit
      rw [mixF_all] at k_t4
      have hbe := bor_end N BN.out
      rw [← HM.out] at hbe
      (first | rw [if_pos HL.out] at hbe | rw [if_neg HL.out] at hbe)
      rw [hbe]
      clear hbe
      go_upto_region 22 with fail
      have lt_t1_6 := blk_lt k_t1
      have lt_t2_6 := blk_lt k_t2
      have lt_t4_6 := blk_lt k_t4
      refine Px 1 ?_
      refine XL ?_
      refine wpX_nil fun W7 hE => ?_
      refine LS ?_ (blk_step k_t1 hE) (g := w.heap.size) (cells := arrK .i64 16 (l16 D)) (h1 := (arrK_one _ _ _))
      refine wpL_nil ?_
      have hF : Below w.heap.size w (W7.setRow w.heap.size (arrK .i64 16 (l16 D))) ∧ Blk (W7.setRow w.heap.size (arrK .i64 16 (l16 D))) w.heap.size (arrK .i64 16 (l16 D)) 76 ∧ Blk (W7.setRow w.heap.size (arrK .i64 16 (l16 D))) (w.heap.size + 1) (arrK .i64 16 (fun _ => 0)) 76 ∧ Blk (W7.setRow w.heap.size (arrK .i64 16 (l16 D))) p4_4 (arrK .i64 16 (l16 D)) 76 := ⟨(below_setRow (below_step bel hE bel.size) (by omega) _), (blk_setRow (blk_step k_t1 hE) (arrK .i64 16 (l16 D))), (blk_setRow_other (blk_step k_t2 hE) (by omega) _), (blk_setRow_other (blk_step k_t4 hE) (by omega) _)⟩
      generalize (W7.setRow w.heap.size (arrK .i64 16 (l16 D))) = W8 at hF ⊢
      clear bel k_t1 k_t2 k_t4
      obtain ⟨bel, k_t1, k_t2, k_t4⟩ := hF
      go_wp2_with fail
      go_roundw
      case rel =>
       refine ⟨t + 1, N - PP, by omega, by go_num, by have := HN.out; have := HL.out; rw [Nat.add_mul]; omega, bel, ?_, k_t2⟩
       rw [← dig_end N BN.out HL.out, ← HDD.out]; exact k_t1
      case measure => simp [intOf]; omega
     ·
      have hk3 : k < 16 := by omega
      have hk3' : (k : Int) < 16 := by omega
      clear hexit
      have hsp := sub16_parts M PP k (by rw [HM.out]; unfold P256 PP; omega)
      rw [show M - PP = D by rw [HM.out, HDD.out], show l16 M k = l16 N k by rw [HM.out, l16_more N k hk3], l16_PP k hk3] at hsp
      have c0 := (blk_cell k_t4 k).trans (arrK_get _ _ _ _ hk3)
      rw [mixF_at] at c0
      have f0 := blk_free k_t4
      have lb := l16_ok N k
      have bb := bor16_le M PP k
      have hset : ∀ v, v = l16 D k → (arrK .i64 16 (mixF k (l16 D) (upd (l16 N) 0 (l16 N 0 - 65517)))).setIfInBounds k (.int .i64 v) = arrK .i64 16 (mixF (k + 1) (l16 D) (upd (l16 N) 0 (l16 N 0 - 65517))) := fun v hv => by rw [hv]; exact mixF_set _ _ _ _ _
      have HS := Lib.hid hset
      clear hset
      obtain ⟨bo, hbo⟩ := exn (bor16 M PP k)
      rw [← hbo] at hsp bb ⊢
      clear hbo
      by_cases e0 : k = 0
      ·
       subst e0
       rw [if_pos rfl] at hsp
       have hu : upd (l16 N) 0 (l16 N 0 - 65517) 0 = l16 N 0 - 65517 := upd_same _ _ _
       rw [hu] at c0
       clear hu
       obtain ⟨x, hx⟩ := exn (l16 N 0)
       obtain ⟨d, hdd⟩ := exn (l16 D 0)
       have lD := l16_ok D 0
       rw [← hx] at c0 hsp lb
       rw [← hdd] at hsp lD
       have HD := Lib.hid hdd
       clear hx hdd
       rcases hsp with ⟨h1, h2⟩ | ⟨h1, h2, h3⟩
       ·
        have hneg : ¬ x - 65517 - (bo : Int) < 0 := by omega
        have H1 := Lib.hid h1
        have H2 := Lib.hid h2
        clear h1 h2 lD
        go_wp2
        have h1 := H1.out
        go_roundw
        case rel =>
         have hs := (blk_set k_t4 0 (.int .i64 (x - 65517 - (bo : Int))))
         rw [HS.out (x - 65517 - (bo : Int)) (H2.out.trans HD.out)] at hs
         refine ⟨0 + 1, by omega, ?_, ?_, ?_, ?_, ?_, hs⟩
         ·
          go_num
         ·
          rw [h1]; rfl
         ·
          exact (below_set bel (by omega) _ _)
         ·
          exact (blk_other k_t1 (by omega) _ _)
         ·
          exact (blk_other k_t2 (by omega) _ _)
        case measure => simp [intOf] <;> omega
       ·
        have H1 := Lib.hid h1
        have H2 := Lib.hid h3
        clear h1 h3 lD
        go_wp2
        have h1 := H1.out
        go_roundw
        case rel =>
         have hs := (blk_set (blk_set k_t4 0 (.int .i64 (x - 65517 - (bo : Int)))) 0 (.int .i64 (x - 65517 - (bo : Int) + 65536)))
         simp only [Array.setIfInBounds_setIfInBounds] at hs
         rw [HS.out (x - 65517 - (bo : Int) + 65536) (H2.out.trans HD.out)] at hs
         refine ⟨0 + 1, by omega, ?_, ?_, ?_, ?_, ?_, hs⟩
         ·
          go_num
         ·
          rw [h1]; rfl
         ·
          exact (below_set (below_set bel (by omega) _ _) (by omega) _ _)
         ·
          exact (blk_other (blk_other k_t1 (by omega) _ _) (by omega) _ _)
         ·
          exact (blk_other (blk_other k_t2 (by omega) _ _) (by omega) _ _)
        case measure => simp [intOf] <;> omega
      ·
       rw [if_neg e0] at hsp
       rw [upd_other _ _ _ _ e0] at c0
       by_cases e15 : k = 15
       ·
        subst e15
        rw [if_pos rfl] at hsp
        clear e0
        obtain ⟨x, hx⟩ := exn (l16 N 15)
        obtain ⟨d, hdd⟩ := exn (l16 D 15)
        have lD := l16_ok D 15
        rw [← hx] at c0 hsp lb
        rw [← hdd] at hsp lD
        have HD := Lib.hid hdd
        clear hx hdd
        rcases hsp with ⟨h1, h2⟩ | ⟨h1, h2, h3⟩
        ·
         have hneg : ¬ x - 32767 - (bo : Int) < 0 := by omega
         have H1 := Lib.hid h1
         have H2 := Lib.hid h2
         clear h1 h2 lD
         go_wp2
         have h1 := H1.out
         go_roundw
         case rel =>
          have hs := (blk_set (blk_set k_t4 15 (.int .i64 (x - 32767))) 15 (.int .i64 (x - 32767 - (bo : Int))))
          simp only [Array.setIfInBounds_setIfInBounds] at hs
          rw [HS.out (x - 32767 - (bo : Int)) (H2.out.trans HD.out)] at hs
          refine ⟨15 + 1, by omega, ?_, ?_, ?_, ?_, ?_, hs⟩
          ·
           go_num
          ·
           rw [h1]; rfl
          ·
           exact (below_set (below_set bel (by omega) _ _) (by omega) _ _)
          ·
           exact (blk_other (blk_other k_t1 (by omega) _ _) (by omega) _ _)
          ·
           exact (blk_other (blk_other k_t2 (by omega) _ _) (by omega) _ _)
         case measure => simp [intOf] <;> omega
        ·
         have H1 := Lib.hid h1
         have H2 := Lib.hid h3
         clear h1 h3 lD
         go_wp2
         have h1 := H1.out
         go_roundw
         case rel =>
          have hs := (blk_set (blk_set (blk_set k_t4 15 (.int .i64 (x - 32767))) 15 (.int .i64 (x - 32767 - (bo : Int)))) 15 (.int .i64 (x - 32767 - (bo : Int) + 65536)))
          simp only [Array.setIfInBounds_setIfInBounds] at hs
          rw [HS.out (x - 32767 - (bo : Int) + 65536) (H2.out.trans HD.out)] at hs
          refine ⟨15 + 1, by omega, ?_, ?_, ?_, ?_, ?_, hs⟩
          ·
           go_num
          ·
           rw [h1]; rfl
          ·
           exact (below_set (below_set (below_set bel (by omega) _ _) (by omega) _ _) (by omega) _ _)
          ·
           exact (blk_other (blk_other (blk_other k_t1 (by omega) _ _) (by omega) _ _) (by omega) _ _)
          ·
           exact (blk_other (blk_other (blk_other k_t2 (by omega) _ _) (by omega) _ _) (by omega) _ _)
         case measure => simp [intOf] <;> omega
       ·
        rw [if_neg e15] at hsp
        have p0 : (0 : Int) < (k : Int) := by omega
        have p15 : (k : Int) < 15 := by omega
        have p15b : ((k : Int) == 15) = false := by rw [beq_eq_false_iff_ne]; omega
        have g1 : decide ((0 : Int) < (k : Int)) = true := decide_eq_true p0
        have g2 : decide ((k : Int) < 15) = true := decide_eq_true p15
        have g3 : 0 < k := by omega
        have g4 : decide (0 < k) = true := decide_eq_true g3
        have g5 : k < 15 := by omega
        have g6 : decide (k < 15) = true := decide_eq_true g5
        have g7 : (k == 15) = false := by rw [beq_eq_false_iff_ne]; omega
        clear e0 e15
        obtain ⟨x, hx⟩ := exn (l16 N k)
        obtain ⟨d, hdd⟩ := exn (l16 D k)
        have lD := l16_ok D k
        rw [← hx] at c0 hsp lb
        rw [← hdd] at hsp lD
        have HD := Lib.hid hdd
        clear hx hdd
        rcases hsp with ⟨h1, h2⟩ | ⟨h1, h2, h3⟩
        ·
         have hneg : ¬ x - 65535 - (bo : Int) < 0 := by omega
         have H1 := Lib.hid h1
         have H2 := Lib.hid h2
         clear h1 h2 lD
         go_wp2
         have h1 := H1.out
         go_roundw
         case rel =>
          have hs := (blk_set (blk_set k_t4 k (.int .i64 (x - 65535))) k (.int .i64 (x - 65535 - (bo : Int))))
          simp only [Array.setIfInBounds_setIfInBounds] at hs
          rw [HS.out (x - 65535 - (bo : Int)) (H2.out.trans HD.out)] at hs
          refine ⟨k + 1, by omega, ?_, ?_, ?_, ?_, ?_, hs⟩
          ·
           go_num
          ·
           rw [h1]; rfl
          ·
           exact (below_set (below_set bel (by omega) _ _) (by omega) _ _)
          ·
           exact (blk_other (blk_other k_t1 (by omega) _ _) (by omega) _ _)
          ·
           exact (blk_other (blk_other k_t2 (by omega) _ _) (by omega) _ _)
         case measure => simp [intOf] <;> omega
        ·
         have H1 := Lib.hid h1
         have H2 := Lib.hid h3
         clear h1 h3 lD
         go_wp2
         have h1 := H1.out
         go_roundw
         case rel =>
          have hs := (blk_set (blk_set (blk_set k_t4 k (.int .i64 (x - 65535))) k (.int .i64 (x - 65535 - (bo : Int)))) k (.int .i64 (x - 65535 - (bo : Int) + 65536)))
          simp only [Array.setIfInBounds_setIfInBounds] at hs
          rw [HS.out (x - 65535 - (bo : Int) + 65536) (H2.out.trans HD.out)] at hs
          refine ⟨k + 1, by omega, ?_, ?_, ?_, ?_, ?_, hs⟩
          ·
           go_num
          ·
           rw [h1]; rfl
          ·
           exact (below_set (below_set (below_set bel (by omega) _ _) (by omega) _ _) (by omega) _ _)
          ·
           exact (blk_other (blk_other (blk_other k_t1 (by omega) _ _) (by omega) _ _) (by omega) _ _)
          ·
           exact (blk_other (blk_other (blk_other k_t2 (by omega) _ _) (by omega) _ _) (by omega) _ _)
         case measure => simp [intOf] <;> omega
end Go.Proofs.YtefpoollmbmkfaaDoor

namespace Go.Proofs.YtefpoollmbmkfaaDoor
set_option maxHeartbeats 4000000
set_option maxRecDepth 100000
open Go.RowKit

theorem okF_l16 (X : Nat) : okF (l16 X) := fun j => by have := l16_ok X j; omega
theorem okF_add (X Y : Nat) : okF (fun j => l16 X j + l16 Y j) := fun j => by have := l16_ok X j; have := l16_ok Y j; dsimp only; omega
theorem sval_sum (X Y : Nat) (hX : X < P256) (hY : Y < P256) : sval (fun j => l16 X j + l16 Y j) 16 = X + Y := by
  rw [sval_add _ _ (fun j => (l16_ok X j).1) (fun j => (l16_ok Y j).1), sval_l16, sval_l16, show (2 : Nat) ^ (16 * 16) = P256 by decide, Nat.mod_eq_of_lt hX, Nat.mod_eq_of_lt hY]
theorem sval_one (X : Nat) (hX : X < P256) : sval (l16 X) 16 = X := by
  rw [sval_l16, show (2 : Nat) ^ (16 * 16) = P256 by decide, Nat.mod_eq_of_lt hX]
theorem rAdd_c (X Y : Nat) (hX : X < P256) (hY : Y < P256) (w : World) :
  Calls Tryd.prog 100 #[A16 X, A16 Y] w fun e w' => Ret (A16 ((X + Y) % PP)) w w' e := by
 have HX := Lib.hid hX
 have HY := Lib.hid hY
 clear hX hY
 unfold A16
 go_enter Tryd.func100, Tryd.ntmps100
 go_wp2_with fail
 refine wn3 (c1 := (arrK .i64 16 (l16 X))) (t1 := 76) (c2 := (arrK .i64 16 (l16 Y))) (t2 := 76) (c3 := (arrK .i64 16 (fun _ => 0))) (t3 := 76) fun W0 bel k_t2 k_t3 k_t4 => ?_
 have lt_t2_0 := blk_lt k_t2
 have lt_t3_0 := blk_lt k_t3
 have lt_t4_0 := blk_lt k_t4
 go_wp2_with fail
 go_loopw [5] (fun ii wr => ∃ (k : Nat), k ≤ 16 ∧ ii = .int .i64 k ∧ Below w.heap.size w wr ∧ Blk wr w.heap.size (arrK .i64 16 (mixF k (fun j => l16 X j + l16 Y j) (l16 X))) 76 ∧ Blk wr (w.heap.size + 1) (arrK .i64 16 (l16 Y)) 76 ∧ Blk wr (w.heap.size + 2) (arrK .i64 16 (fun _ => 0)) 76)
  (fun ii _ => (16 - intOf ii).toNat)
 case atStart =>
  refine ⟨0, by omega, rfl, bel, ?_, k_t3, k_t4⟩
  rw [mixF_zero]; exact k_t2
 case round =>
  obtain ⟨k, hk, rfl, bel, k_t2, k_t3, k_t4⟩ := hrel
  by_cases hexit : k = 16
  ·
   have _hx := hexit
   subst hexit
   rw [mixF_all] at k_t2
   go_upto_region 5 with fail
   have lt_t2_1 := blk_lt k_t2
   have lt_t3_1 := blk_lt k_t3
   have lt_t4_1 := blk_lt k_t4
   have c_t := rtidy_c (fun j => l16 X j + l16 Y j) (okF_add X Y)
   rw [sval_sum X Y HX.out HY.out] at c_t
   obtain ⟨R, hR⟩ := exn ((X + Y) % PP)
   rw [← hR] at c_t
   have HR := Lib.hid hR
   clear hR
   refine Px 2 ?_
   refine XL ?_
   refine Xf ?_ (fun W hW => c_t W)
   refine wpX_nil fun W2 hE => ?_
   refine Lp ?_ (blk_step k_t4 hE) (cells := arrK .i64 16 (l16 R)) (h1 := (arrK_one _ _ _))
   intro W3 hO h_
   refine wpL_nil ?_
   replace k_t2 := ko k_t2 hE hO (by omega)
   replace k_t3 := ko k_t3 hE hO (by omega)
   replace k_t4 := h_
   replace bel := bwo bel hE hO bel.size (by omega)
   clear hO h_
   go_wp2
   refine bodyPost_ret (res_row rfl rfl k_t4 (by kernel_rfl) (by kernel_rfl)) rfl ⟨?_, bel⟩
   (rw [← HR.out] <;> rfl)
  ·
   have hk3 : k < 16 := by omega
   have hk3' : (k : Int) < 16 := by omega
   clear hexit
   have c0 := (blk_cell k_t2 k).trans (arrK_get _ _ _ _ hk3)
   rw [mixF_at] at c0
   have c1 := (blk_cell k_t3 k).trans (arrK_get _ _ _ _ hk3)
   have f0 := blk_free k_t2
   have l0 := l16_ok X k
   have l1 := l16_ok Y k
   have w1 : IntKind.i64.wrap (l16 X k + l16 Y k) = l16 X k + l16 Y k := IntWalk.i64_in _ (by omega)
   go_wp2
   go_region
   go_wp2
   have hs := blk_set k_t2 k (.int .i64 (l16 X k + l16 Y k))
   have hm := mixF_set .i64 16 k (fun j => l16 X j + l16 Y j) (l16 X)
   rw [hm] at hs
   go_roundw
   case rel =>
    refine ⟨k + 1, by omega, ?_, ?_, blk_drew hs, ?_, ?_⟩
    ·
     (first | rfl | go_num)
    ·
     exact (below_set bel (by omega) _ _).drew
    ·
     exact blk_drew (blk_other k_t3 (by omega) _ _)
    ·
     exact blk_drew (blk_other k_t4 (by omega) _ _)
   case measure => simp [intOf]; omega
end Go.Proofs.YtefpoollmbmkfaaDoor

namespace Go.Proofs.YtefpoollmbmkfaaDoor
set_option maxHeartbeats 4000000
set_option maxRecDepth 100000
open Go.RowKit

theorem rNeg_c (X : Nat) (hX : X ≤ PP) (w : World) :
  Calls Tryd.prog 102 #[A16 X] w fun e w' => Ret (A16 ((PP - X) % PP)) w w' e := by
 have HX := Lib.hid hX
 clear hX
 unfold A16
 go_enter Tryd.func102, Tryd.ntmps102
 go_wp2_with fail
 refine wn3 (c1 := (arrK .i64 16 (l16 X))) (t1 := 76) (c2 := (arrK .i64 16 (fun _ => 0))) (t2 := 76) (c3 := (arrK .i64 16 (fun _ => 0))) (t3 := 76) fun W0 bel k_t1 k_t2 k_t3 => ?_
 have lt_t1_0 := blk_lt k_t1
 have lt_t2_0 := blk_lt k_t2
 have lt_t3_0 := blk_lt k_t3
 obtain ⟨D, hD⟩ := exn (PP - X)
 have HD := Lib.hid hD
 clear hD
 go_wp2_with fail
 go_loopw [4, 5] (fun oo ii wr => ∃ (k : Nat), k ≤ 16 ∧ ii = .int .i64 k ∧ oo = .int .i64 (bor16 PP X k : Int) ∧ Below w.heap.size w wr ∧ Blk wr w.heap.size (arrK .i64 16 (l16 X)) 76 ∧ Blk wr (w.heap.size + 1) (arrK .i64 16 (fun _ => 0)) 76 ∧ Blk wr (w.heap.size + 2) (arrK .i64 16 (mixF k (l16 D) (fun _ => 0))) 76)
  (fun oo ii _ => (16 - intOf ii).toNat)
 case atStart =>
  refine ⟨0, by omega, rfl, by rw [bor16_zero]; rfl, bel, k_t1, k_t2, ?_⟩
  rw [mixF_zero]; exact k_t3
 case round =>
  obtain ⟨k, hk, rfl, rfl, bel, k_t1, k_t2, k_t3⟩ := hrel
  by_cases hexit : k = 16
  ·
   have _hx := hexit
   subst hexit
   rw [mixF_all] at k_t3
   have bD : D < P256 := by rw [HD.out]; exact Nat.lt_of_le_of_lt (Nat.sub_le _ _) PP_lt
   have BD := Lib.hid bD
   clear bD
   go_upto_region 16 with fail
   have lt_t1_1 := blk_lt k_t1
   have lt_t2_1 := blk_lt k_t2
   have lt_t3_1 := blk_lt k_t3
   have c_t := rtidy_c (l16 D) (okF_l16 D)
   rw [sval_one D BD.out] at c_t
   obtain ⟨R, hR⟩ := exn (D % PP)
   rw [← hR] at c_t
   have HR := Lib.hid hR
   clear hR
   refine Px 2 ?_
   refine XL ?_
   refine Xf ?_ (fun W hW => c_t W)
   refine wpX_nil fun W2 hE => ?_
   refine Lp ?_ (blk_step k_t2 hE) (cells := arrK .i64 16 (l16 R)) (h1 := (arrK_one _ _ _))
   intro W3 hO h_
   refine wpL_nil ?_
   replace k_t1 := ko k_t1 hE hO (by omega)
   replace k_t2 := h_
   replace k_t3 := ko k_t3 hE hO (by omega)
   replace bel := bwo bel hE hO bel.size (by omega)
   clear hO h_
   go_wp2
   refine bodyPost_ret (res_row rfl rfl k_t2 (by kernel_rfl) (by kernel_rfl)) rfl ⟨?_, bel⟩
   (rw [← HD.out, ← HR.out] <;> rfl)
  ·
   have hk3 : k < 16 := by omega
   have hk3' : (k : Int) < 16 := by omega
   clear hexit
   have hsp := sub16_parts PP X k HX.out
   rw [← HD.out, l16_PP k hk3] at hsp
   have c0 := (blk_cell k_t3 k).trans (arrK_get _ _ _ _ hk3)
   rw [mixF_at] at c0
   have c1 := (blk_cell k_t1 k).trans (arrK_get _ _ _ _ hk3)
   have f0 := blk_free k_t3
   have lb := l16_ok X k
   have bb := bor16_le PP X k
   have hset : ∀ v, v = l16 D k → (arrK .i64 16 (mixF k (l16 D) (fun _ => 0))).setIfInBounds k (.int .i64 v) = arrK .i64 16 (mixF (k + 1) (l16 D) (fun _ => 0)) := fun v hv => by rw [hv]; exact mixF_set _ _ _ _ _
   have HS := Lib.hid hset
   clear hset
   obtain ⟨bo, hbo⟩ := exn (bor16 PP X k)
   rw [← hbo] at hsp bb ⊢
   clear hbo
   by_cases e0 : k = 0
   ·
    subst e0
    rw [if_pos rfl] at hsp
    obtain ⟨x, hx⟩ := exn (l16 X 0)
    obtain ⟨d, hdd⟩ := exn (l16 D 0)
    have lD := l16_ok D 0
    rw [← hx] at c1 hsp lb
    rw [← hdd] at hsp lD
    have HDD := Lib.hid hdd
    clear hx hdd
    rcases hsp with ⟨h1, h2⟩ | ⟨h1, h2, h3⟩
    ·
     have hneg : ¬ 65517 - x - (bo : Int) < 0 := by omega
     have H1 := Lib.hid h1
     have H2 := Lib.hid h2
     clear h1 h2 lD
     go_wp2
     have h1 := H1.out
     go_roundw
     case rel =>
      have hs := (blk_set k_t3 0 (.int .i64 (65517 - x - (bo : Int))))
      rw [HS.out (65517 - x - (bo : Int)) (H2.out.trans HDD.out)] at hs
      refine ⟨0 + 1, by omega, ?_, ?_, ?_, ?_, ?_, hs⟩
      ·
       (first | rfl | go_num)
      ·
       rw [h1]; rfl
      ·
       exact (below_set bel (by omega) _ _)
      ·
       exact (blk_other k_t1 (by omega) _ _)
      ·
       exact (blk_other k_t2 (by omega) _ _)
     case measure => simp [intOf] <;> omega
    ·
     have H1 := Lib.hid h1
     have H2 := Lib.hid h3
     clear h1 h3 lD
     go_wp2
     have h1 := H1.out
     go_roundw
     case rel =>
      have hs := (blk_set (blk_set k_t3 0 (.int .i64 (65517 - x - (bo : Int)))) 0 (.int .i64 (65517 - x - (bo : Int) + 65536)))
      simp only [Array.setIfInBounds_setIfInBounds] at hs
      rw [HS.out (65517 - x - (bo : Int) + 65536) (H2.out.trans HDD.out)] at hs
      refine ⟨0 + 1, by omega, ?_, ?_, ?_, ?_, ?_, hs⟩
      ·
       (first | rfl | go_num)
      ·
       rw [h1]; rfl
      ·
       exact (below_set (below_set bel (by omega) _ _) (by omega) _ _)
      ·
       exact (blk_other (blk_other k_t1 (by omega) _ _) (by omega) _ _)
      ·
       exact (blk_other (blk_other k_t2 (by omega) _ _) (by omega) _ _)
     case measure => simp [intOf] <;> omega
   ·
    rw [if_neg e0] at hsp
    by_cases e15 : k = 15
    ·
     subst e15
     rw [if_pos rfl] at hsp
     clear e0
     obtain ⟨x, hx⟩ := exn (l16 X 15)
     obtain ⟨d, hdd⟩ := exn (l16 D 15)
     have lD := l16_ok D 15
     rw [← hx] at c1 hsp lb
     rw [← hdd] at hsp lD
     have HDD := Lib.hid hdd
     clear hx hdd
     rcases hsp with ⟨h1, h2⟩ | ⟨h1, h2, h3⟩
     ·
      have hneg : ¬ 32767 - x - (bo : Int) < 0 := by omega
      have H1 := Lib.hid h1
      have H2 := Lib.hid h2
      clear h1 h2 lD
      go_wp2
      have h1 := H1.out
      go_roundw
      case rel =>
       have hs := (blk_set k_t3 15 (.int .i64 (32767 - x - (bo : Int))))
       rw [HS.out (32767 - x - (bo : Int)) (H2.out.trans HDD.out)] at hs
       refine ⟨15 + 1, by omega, ?_, ?_, ?_, ?_, ?_, hs⟩
       ·
        (first | rfl | go_num)
       ·
        rw [h1]; rfl
       ·
        exact (below_set bel (by omega) _ _)
       ·
        exact (blk_other k_t1 (by omega) _ _)
       ·
        exact (blk_other k_t2 (by omega) _ _)
      case measure => simp [intOf] <;> omega
     ·
      have H1 := Lib.hid h1
      have H2 := Lib.hid h3
      clear h1 h3 lD
      go_wp2
      have h1 := H1.out
      go_roundw
      case rel =>
       have hs := (blk_set (blk_set k_t3 15 (.int .i64 (32767 - x - (bo : Int)))) 15 (.int .i64 (32767 - x - (bo : Int) + 65536)))
       simp only [Array.setIfInBounds_setIfInBounds] at hs
       rw [HS.out (32767 - x - (bo : Int) + 65536) (H2.out.trans HDD.out)] at hs
       refine ⟨15 + 1, by omega, ?_, ?_, ?_, ?_, ?_, hs⟩
       ·
        (first | rfl | go_num)
       ·
        rw [h1]; rfl
       ·
        exact (below_set (below_set bel (by omega) _ _) (by omega) _ _)
       ·
        exact (blk_other (blk_other k_t1 (by omega) _ _) (by omega) _ _)
       ·
        exact (blk_other (blk_other k_t2 (by omega) _ _) (by omega) _ _)
      case measure => simp [intOf] <;> omega
    ·
     rw [if_neg e15] at hsp
     have p0 : ¬ (k : Int) = 0 := by omega
     have p15 : ¬ (k : Int) = 15 := by omega
     have p0b : ((k : Int) == 0) = false := by rw [beq_eq_false_iff_ne]; omega
     have p15b : ((k : Int) == 15) = false := by rw [beq_eq_false_iff_ne]; omega
     have g6 : (k == 0) = false := by rw [beq_eq_false_iff_ne]; omega
     have g7 : (k == 15) = false := by rw [beq_eq_false_iff_ne]; omega
     obtain ⟨x, hx⟩ := exn (l16 X k)
     obtain ⟨d, hdd⟩ := exn (l16 D k)
     have lD := l16_ok D k
     rw [← hx] at c1 hsp lb
     rw [← hdd] at hsp lD
     have HDD := Lib.hid hdd
     clear hx hdd
     rcases hsp with ⟨h1, h2⟩ | ⟨h1, h2, h3⟩
     ·
      have hneg : ¬ 65535 - x - (bo : Int) < 0 := by omega
      have H1 := Lib.hid h1
      have H2 := Lib.hid h2
      clear h1 h2 lD
      go_wp2
      have h1 := H1.out
      go_roundw
      case rel =>
       have hs := (blk_set k_t3 k (.int .i64 (65535 - x - (bo : Int))))
       rw [HS.out (65535 - x - (bo : Int)) (H2.out.trans HDD.out)] at hs
       refine ⟨k + 1, by omega, ?_, ?_, ?_, ?_, ?_, hs⟩
       ·
        (first | rfl | go_num)
       ·
        rw [h1]; rfl
       ·
        exact (below_set bel (by omega) _ _)
       ·
        exact (blk_other k_t1 (by omega) _ _)
       ·
        exact (blk_other k_t2 (by omega) _ _)
      case measure => simp [intOf] <;> omega
     ·
      have H1 := Lib.hid h1
      have H2 := Lib.hid h3
      clear h1 h3 lD
      go_wp2
      have h1 := H1.out
      go_roundw
      case rel =>
       have hs := (blk_set (blk_set k_t3 k (.int .i64 (65535 - x - (bo : Int)))) k (.int .i64 (65535 - x - (bo : Int) + 65536)))
       simp only [Array.setIfInBounds_setIfInBounds] at hs
       rw [HS.out (65535 - x - (bo : Int) + 65536) (H2.out.trans HDD.out)] at hs
       refine ⟨k + 1, by omega, ?_, ?_, ?_, ?_, ?_, hs⟩
       ·
        (first | rfl | go_num)
       ·
        rw [h1]; rfl
       ·
        exact (below_set (below_set bel (by omega) _ _) (by omega) _ _)
       ·
        exact (blk_other (blk_other k_t1 (by omega) _ _) (by omega) _ _)
       ·
        exact (blk_other (blk_other k_t2 (by omega) _ _) (by omega) _ _)
      case measure => simp [intOf] <;> omega
theorem rSub_c (X Y : Nat) (hX : X < P256) (hY : Y ≤ PP) (w : World) :
  Calls Tryd.prog 99 #[A16 X, A16 Y] w fun e w' => Ret (A16 ((X + (PP - Y) % PP) % PP)) w w' e := by
 have HX := Lib.hid hX
 have HY := Lib.hid hY
 clear hX hY
 unfold A16
 go_enter Tryd.func99, Tryd.ntmps99
 go_upto_region 1 with fail
 refine wn3 (c1 := (arrK .i64 16 (l16 X))) (t1 := 76) (c2 := (arrK .i64 16 (l16 Y))) (t2 := 76) (c3 := (arrK .i64 16 (fun _ => 0))) (t3 := 76) fun W0 bel k_t2 k_t3 k_t4 => ?_
 have lt_t2_0 := blk_lt k_t2
 have lt_t3_0 := blk_lt k_t3
 have lt_t4_0 := blk_lt k_t4
 have c_n := rNeg_c Y HY.out
 obtain ⟨M, hM⟩ := exn ((PP - Y) % PP)
 rw [← hM] at c_n
 have HM := Lib.hid hM
 have bM := b256 hM
 have BM := Lib.hid bM
 clear hM bM
 have c_a := rAdd_c X M HX.out BM.out
 obtain ⟨S, hS⟩ := exn ((X + M) % PP)
 rw [← hS] at c_a
 have HSS := Lib.hid hS
 clear hS
 refine Rx 4 ?_
 refine XL ?_
 refine XL ?_
 refine Xf ?_ (fun W hW => c_n W)
 refine Xf ?_ (fun W hW => c_a W)
 refine wpX_nil fun W1 hE => ?_
 refine Lp ?_ (blk_step k_t4 hE) (cells := arrK .i64 16 (l16 S)) (h1 := (arrK_one _ _ _))
 intro W2 hO h_
 refine LN ?_
 replace k_t2 := ko k_t2 hE hO (by omega)
 replace k_t3 := ko k_t3 hE hO (by omega)
 replace k_t4 := h_
 replace bel := bwo bel hE hO bel.size (by omega)
 clear hO h_
 go_wp2
 refine bodyPost_ret (res_row rfl rfl k_t4 (by kernel_rfl) (by kernel_rfl)) rfl ⟨?_, bel⟩
 (rw [← HM.out, ← HSS.out] <;> rfl)
end Go.Proofs.YtefpoollmbmkfaaDoor

namespace Go.Proofs.YtefpoollmbmkfaaDoor
set_option maxHeartbeats 4000000
set_option maxRecDepth 100000
open Go.RowKit

theorem sval_split (f : Nat → Int) (m : Nat) : ∀ n, sval f (m + n) = sval f m + 2 ^ (16 * m) * sval (fun j => f (m + j)) n
  | 0 => by simp [sval]
  | n + 1 => by
    show sval f (m + n) + (f (m + n)).toNat * 2 ^ (16 * (m + n)) = sval f m + 2 ^ (16 * m) * (sval (fun j => f (m + j)) n + (f (m + n)).toNat * 2 ^ (16 * n))
    rw [sval_split f m n, Nat.mul_add, Nat.pow_add, Nat.mul_add (2 ^ (16 * m)), Nat.mul_left_comm (2 ^ (16 * m))]; omega
theorem sval_scale (f : Nat → Int) (hf : ∀ j, 0 ≤ f j) (c : Nat) : ∀ n, sval (fun j => (c : Int) * f j) n = c * sval f n
  | 0 => rfl
  | n + 1 => by
    show sval _ n + ((c : Int) * f n).toNat * _ = c * (sval f n + (f n).toNat * _)
    obtain ⟨x, hx⟩ := Int.eq_ofNat_of_zero_le (hf n)
    rw [sval_scale f hf c n, Nat.mul_add, hx, ← Int.natCast_mul, Int.toNat_natCast, Int.toNat_natCast, Nat.mul_assoc]
/-- the 32 sums folded to 16 -/
def fold16 (F : Nat → Int) : Nat → Int := fun j => F j + 38 * F (j + 16)
theorem fold16_val (F : Nat → Int) (h : ∀ j, 0 ≤ F j) : sval (fold16 F) 16 % PP = sval F 32 % PP := by
  have e1 : sval (fold16 F) 16 = sval F 16 + 38 * sval (fun j => F (16 + j)) 16 := by
    have := sval_add F (fun j => (38 : Nat) * F (16 + j)) h (fun j => Int.mul_nonneg (by omega) (h _)) 16
    rw [sval_scale (fun j => F (16 + j)) (fun j => h (16 + j)) 38 16] at this
    rw [← this]
    apply sval_congr
    intro j _
    unfold fold16
    rw [Nat.add_comm j 16]; rfl
  have e2 := sval_split F 16 16
  rw [show 16 + 16 = 32 by decide, show (2 : Nat) ^ (16 * 16) = P256 by decide, show P256 = 2 * PP + 38 from PP_two.symm] at e2
  rw [e1, e2, Nat.add_mul, Nat.mul_comm 2 PP, Nat.mul_assoc PP, ← Nat.add_assoc, Nat.add_right_comm, Nat.add_mul_mod_self_left]
/-- a product more -/
theorem conv_step (F : Nat → Int) (h : ∀ j, 0 ≤ F j) (X Y i k : Nat) (hi : i < 16) (hk : k < 16) (B : Nat) (hB : ∀ j, F j ≤ (B : Int)) (hs : sval F 32 = X % 2 ^ (16 * i) * Y + (l16 X i).toNat * 2 ^ (16 * i) * (Y % 2 ^ (16 * k))) :
    (∀ j, 0 ≤ upd F (i + k) (F (i + k) + l16 X i * l16 Y k) j) ∧ (∀ j, upd F (i + k) (F (i + k) + l16 X i * l16 Y k) j ≤ ((B + 4294836225 : Nat) : Int)) ∧
    sval (upd F (i + k) (F (i + k) + l16 X i * l16 Y k)) 32 = X % 2 ^ (16 * i) * Y + (l16 X i).toNat * 2 ^ (16 * i) * (Y % 2 ^ (16 * (k + 1))) := by
  have r1 := l16_ok X i
  have r2 := l16_ok Y k
  have h0 := h (i + k)
  obtain ⟨x, hx⟩ := Int.eq_ofNat_of_zero_le r1.1
  have hy : l16 Y k = ((Y / 2 ^ (16 * k) % 65536 : Nat) : Int) := rfl
  have hsu := sval_upd F (i + k) (F (i + k) + l16 X i * l16 Y k) 32 (by omega)
  obtain ⟨f, hf⟩ := Int.eq_ofNat_of_zero_le h0
  have hyb : Y / 2 ^ (16 * k) % 65536 < 65536 := Nat.mod_lt _ (by decide)
  rw [mod16_succ Y k]
  rw [hx] at hs r1 ⊢ hsu
  rw [hy] at r2 ⊢ hsu
  generalize Y / 2 ^ (16 * k) % 65536 = y at *
  have hxy : x * y ≤ 65535 * 65535 := Nat.mul_le_mul (by omega) (by omega)
  have exy : (x : Int) * (y : Int) = ((x * y : Nat) : Int) := by rw [Int.natCast_mul]
  rw [exy] at hsu ⊢
  have hBk := hB (i + k)
  rw [hf] at hsu ⊢
  refine ⟨fun j => ?_, fun j => ?_, ?_⟩
  · unfold upd; split
    · omega
    · exact h j
  · unfold upd; split
    · omega
    · have := hB j; omega
  · rw [← Int.natCast_add] at hsu ⊢
    rw [hs] at hsu
    simp only [Int.toNat_natCast] at hsu ⊢
    rw [Nat.add_mul] at hsu
    rw [Nat.mul_add (x * 2 ^ (16 * i)), show x * 2 ^ (16 * i) * (y * 2 ^ (16 * k)) = x * y * 2 ^ (16 * (i + k)) by rw [show 16 * (i + k) = 16 * i + 16 * k by omega, Nat.pow_add, Nat.mul_mul_mul_comm]]
    omega

theorem rMul_c (X Y : Nat) (hX : X < P256) (hY : Y < P256) (w : World) :
  Calls Tryd.prog 89 #[A16 X, A16 Y] w fun e w' => Ret (A16 (X * Y % PP)) w w' e := by
 have HX := Lib.hid hX
 have HY := Lib.hid hY
 clear hX hY
 unfold A16
 go_enter Tryd.func89, Tryd.ntmps89
 go_wp2_with fail
 refine wn4 (c1 := (arrK .i64 16 (l16 X))) (t1 := 76) (c2 := (arrK .i64 16 (l16 Y))) (t2 := 76) (c3 := (arrK .i64 16 (fun _ => 0))) (t3 := 76) (c5 := (arrK .i64 32 (fun _ => 0))) (t5 := 147) fun W0 bel k_t2 k_t3 k_t4 k_t5 => ?_
 have lt_t2_0 := blk_lt k_t2
 have lt_t3_0 := blk_lt k_t3
 have lt_t4_0 := blk_lt k_t4
 have lt_t5_0 := blk_lt k_t5
 go_wp2_with fail
 go_loopw [6] (fun ii wr => ∃ (i : Nat) (F : Nat → Int), i ≤ 16 ∧ ii = .int .i64 i ∧ Hid ((∀ j, 0 ≤ F j) ∧ (∀ j, F j ≤ ((16 * i * 4294836225 : Nat) : Int)) ∧ sval F 32 = X % 2 ^ (16 * i) * Y) ∧ Below w.heap.size w wr ∧ Blk wr w.heap.size (arrK .i64 16 (l16 X)) 76 ∧ Blk wr (w.heap.size + 1) (arrK .i64 16 (l16 Y)) 76 ∧ Blk wr (w.heap.size + 2) (arrK .i64 16 (fun _ => 0)) 76 ∧ Blk wr (w.heap.size + 3) (arrK .i64 32 F) 147)
  (fun ii _ => (16 - intOf ii).toNat)
 case atStart =>
  refine ⟨0, fun _ => 0, by omega, rfl, Lib.hid ⟨fun _ => Int.le_refl _, fun _ => by simp, by rw [sval_zero, Nat.mul_zero, Nat.pow_zero, Nat.mod_one, Nat.zero_mul]⟩, bel, k_t2, k_t3, k_t4, k_t5⟩
 case round =>
  obtain ⟨i, F, hi, rfl, HF, bel, k_t2, k_t3, k_t4, k_t5⟩ := hrel
  by_cases hexit : i = 16
  ·
   have _hx := hexit
   subst hexit
   go_upto_region 9 with fail
   have lt_t2_1 := blk_lt k_t2
   have lt_t3_1 := blk_lt k_t3
   have lt_t4_1 := blk_lt k_t4
   have lt_t5_1 := blk_lt k_t5
   refine Px1 0 8 (z := arrK .i64 16 (fun _ => 0)) (t := 76) ?_
   refine XN ?_
   intro p8_2 W2 n_t8_2 hE k_t8
   have sz_2 := bel.size
   skip
   refine wpL_nil ?_
   have hF : Below w.heap.size w W2 ∧ Blk W2 w.heap.size (arrK .i64 16 (l16 X)) 76 ∧ Blk W2 (w.heap.size + 1) (arrK .i64 16 (l16 Y)) 76 ∧ Blk W2 (w.heap.size + 2) (arrK .i64 16 (fun _ => 0)) 76 ∧ Blk W2 (w.heap.size + 3) (arrK .i64 32 F) 147 ∧ Blk W2 p8_2 (arrK .i64 16 (fun _ => 0)) 76 := ⟨(below_step bel hE bel.size), (blk_step k_t2 hE), (blk_step k_t3 hE), (blk_step k_t4 hE), (blk_step k_t5 hE), k_t8⟩
   clear bel k_t2 k_t3 k_t4 k_t5 k_t8
   obtain ⟨bel, k_t2, k_t3, k_t4, k_t5, k_t8⟩ := hF
   have lt_t8_2 := blk_lt k_t8
   go_wp2_with fail
   go_loopw [9] (fun ii wr => ∃ (k : Nat), k ≤ 16 ∧ ii = .int .i64 k ∧ Below w.heap.size w wr ∧ Blk wr w.heap.size (arrK .i64 16 (l16 X)) 76 ∧ Blk wr (w.heap.size + 1) (arrK .i64 16 (l16 Y)) 76 ∧ Blk wr (w.heap.size + 2) (arrK .i64 16 (fun _ => 0)) 76 ∧ Blk wr (w.heap.size + 3) (arrK .i64 32 F) 147 ∧ Blk wr p8_2 (arrK .i64 16 (mixF k (fold16 F) (fun _ => 0))) 76)
    (fun ii _ => (16 - intOf ii).toNat)
   case atStart =>
    refine ⟨0, by omega, rfl, bel, k_t2, k_t3, k_t4, k_t5, ?_⟩
    rw [mixF_zero]; exact k_t8
   case round =>
    obtain ⟨k, hk, rfl, bel, k_t2, k_t3, k_t4, k_t5, k_t8⟩ := hrel
    by_cases hexit : k = 16
    ·
     have _hx := hexit
     subst hexit
     rw [mixF_all] at k_t8
     go_upto_region 14 with fail
     have lt_t2_3 := blk_lt k_t2
     have lt_t3_3 := blk_lt k_t3
     have lt_t4_3 := blk_lt k_t4
     have lt_t5_3 := blk_lt k_t5
     have lt_t8_3 := blk_lt k_t8
     have okfold : okF (fold16 F) := fun j => by have u := HF.out.1 j; have v := HF.out.2.1 j; have u2 := HF.out.1 (j + 16); have v2 := HF.out.2.1 (j + 16); unfold fold16; omega
     have c_t := rtidy_c (fold16 F) okfold
     rw [fold16_val F HF.out.1, HF.out.2.2, show X % 2 ^ (16 * 16) = X by rw [show (2 : Nat) ^ (16 * 16) = P256 by decide]; exact Nat.mod_eq_of_lt HX.out] at c_t
     obtain ⟨R, hR⟩ := exn (X * Y % PP)
     rw [← hR] at c_t
     have HR := Lib.hid hR
     clear hR
     refine Px 2 ?_
     refine XL ?_
     refine Xf ?_ (fun W hW => c_t W)
     refine wpX_nil fun W4 hE => ?_
     refine Lp ?_ (blk_step k_t4 hE) (cells := arrK .i64 16 (l16 R)) (h1 := (arrK_one _ _ _))
     intro W5 hO h_
     refine wpL_nil ?_
     replace k_t2 := ko k_t2 hE hO (by omega)
     replace k_t3 := ko k_t3 hE hO (by omega)
     replace k_t4 := h_
     replace k_t5 := ko k_t5 hE hO (by omega)
     replace k_t8 := ko k_t8 hE hO (by omega)
     replace bel := bwo bel hE hO bel.size (by omega)
     clear hO h_
     go_wp2
     refine bodyPost_ret (res_row rfl rfl k_t4 (by kernel_rfl) (by kernel_rfl)) rfl ⟨?_, bel⟩
     (rw [← HR.out] <;> rfl)
    ·
     have hk3 : k < 16 := by omega
     have hk3' : (k : Int) < 16 := by omega
     clear hexit
     have c0 := (blk_cell k_t5 k).trans (arrK_get _ _ _ _ (by omega))
     have c1 := (blk_cell k_t5 (k + 16)).trans (arrK_get _ _ _ _ (by omega))
     have c2 := (blk_cell k_t8 k).trans (arrK_get _ _ _ _ hk3)
     rw [mixF_at] at c2
     have f0 := blk_free k_t8
     obtain ⟨u0, u1⟩ := And.intro (HF.out.1 k) (HF.out.2.1 k)
     obtain ⟨v0, v1⟩ := And.intro (HF.out.1 (k + 16)) (HF.out.2.1 (k + 16))
     have w0 : IntKind.i64.wrap ((k : Int) + 16) = ((k + 16 : Nat) : Int) := by rw [IntWalk.i64_in _ (by omega)]; omega
     have w1 : IntKind.i64.wrap (38 * F (k + 16)) = 38 * F (k + 16) := IntWalk.i64_in _ (by omega)
     have w2 : IntKind.i64.wrap (F k + 38 * F (k + 16)) = F k + 38 * F (k + 16) := IntWalk.i64_in _ (by omega)
     clear u0 u1 v0 v1 w0
     have h32 : (k : Int) < 32 := by omega
     have h33 : (k : Int) + 16 < 32 := by omega
     go_wp2
     go_region
     go_wp2
     have hs := blk_set k_t8 k (.int .i64 (fold16 F k))
     rw [mixF_set] at hs
     go_roundw
     case rel =>
      refine ⟨k + 1, by omega, ?_, (below_set bel (by omega) _ _).drew, blk_drew (blk_other k_t2 (by omega) _ _), blk_drew (blk_other k_t3 (by omega) _ _), blk_drew (blk_other k_t4 (by omega) _ _), blk_drew (blk_other k_t5 (by omega) _ _), ?_⟩
      ·
       (first | rfl | go_num)
      ·
       exact blk_drew hs
     case measure => simp [intOf]; omega
  ·
   have hi3 : i < 16 := by omega
   have hi3' : (i : Int) < 16 := by omega
   clear hexit
   have lt_t2_1 := blk_lt k_t2
   have lt_t3_1 := blk_lt k_t3
   have lt_t4_1 := blk_lt k_t4
   have lt_t5_1 := blk_lt k_t5
   go_wp2_with fail
   go_loopw [7] (fun kk wr => ∃ (k : Nat) (G : Nat → Int), k ≤ 16 ∧ kk = .int .i64 k ∧ Hid ((∀ j, 0 ≤ G j) ∧ (∀ j, G j ≤ (((16 * i + k) * 4294836225 : Nat) : Int)) ∧ sval G 32 = X % 2 ^ (16 * i) * Y + (l16 X i).toNat * 2 ^ (16 * i) * (Y % 2 ^ (16 * k))) ∧ Below w.heap.size w wr ∧ Blk wr w.heap.size (arrK .i64 16 (l16 X)) 76 ∧ Blk wr (w.heap.size + 1) (arrK .i64 16 (l16 Y)) 76 ∧ Blk wr (w.heap.size + 2) (arrK .i64 16 (fun _ => 0)) 76 ∧ Blk wr (w.heap.size + 3) (arrK .i64 32 G) 147)
    (fun kk _ => (16 - intOf kk).toNat)
   case atStart =>
    refine ⟨0, F, by omega, rfl, Lib.hid ⟨HF.out.1, HF.out.2.1, by rw [HF.out.2.2, Nat.mul_zero 16, Nat.pow_zero, Nat.mod_one, Nat.mul_zero, Nat.add_zero]⟩, bel, k_t2, k_t3, k_t4, k_t5⟩
   case round =>
    obtain ⟨k, G, hk, rfl, HG, bel, k_t2, k_t3, k_t4, k_t5⟩ := hrel
    by_cases hexit : k = 16
    ·
     have _hx := hexit
     subst hexit
     go_wp2_with fail
     go_roundw
     case rel =>
      refine ⟨i + 1, G, by omega, by go_num, Lib.hid ⟨HG.out.1, ?_, ?_⟩, bel, k_t2, k_t3, k_t4, k_t5⟩
      ·
       rw [show 16 * (i + 1) * 4294836225 = (16 * i + 16) * 4294836225 by omega]; exact HG.out.2.1
      ·
       have h := HG.out.2.2
       rw [show Y % 2 ^ (16 * 16) = Y by rw [show (2 : Nat) ^ (16 * 16) = P256 by decide]; exact Nat.mod_eq_of_lt HY.out] at h
       rw [h, mod16_succ X i, Nat.add_mul]; rfl
     case measure => simp [intOf]; omega
    ·
     have hk3 : k < 16 := by omega
     have hk3' : (k : Int) < 16 := by omega
     clear hexit
     obtain ⟨m, hm⟩ := exn (i + k)
     have hcs := conv_step G HG.out.1 X Y i k hi3 hk3 _ HG.out.2.1 HG.out.2.2
     have hG0 := HG.out.1 m
     have hG1 := HG.out.2.1 m
     have lx := l16_ok X i
     have ly := l16_ok Y k
     have hp : 0 ≤ l16 X i * l16 Y k ∧ l16 X i * l16 Y k ≤ 4294836225 := ⟨Int.mul_nonneg lx.1 ly.1, by have := Int.mul_le_mul lx.2 ly.2 ly.1 (by omega); omega⟩
     rw [← hm] at hcs
     have hm32 : m < 32 := by omega
     have hm32' : (m : Int) < 32 := by omega
     have w0 : IntKind.i64.wrap ((i : Int) + (k : Int)) = (m : Int) := by rw [IntWalk.i64_in _ (by omega)]; omega
     have c0 := (blk_cell k_t5 m).trans (arrK_get _ _ _ _ hm32)
     have c1 := (blk_cell k_t2 i).trans (arrK_get _ _ _ _ hi3)
     have c2 := (blk_cell k_t3 k).trans (arrK_get _ _ _ _ hk3)
     have f0 := blk_free k_t5
     obtain ⟨p, hpe⟩ := exn (l16 X i * l16 Y k)
     rw [← hpe] at hcs hp
     have w1 : IntKind.i64.wrap (l16 X i * l16 Y k) = p := by rw [← hpe]; exact IntWalk.i64_in _ (by omega)
     have w2 : IntKind.i64.wrap (G m + p) = G m + p := IntWalk.i64_in _ (by omega)
     have HC := Lib.hid hcs
     clear hcs hpe lx ly hG0 hG1 hp hm
     go_wp2
     go_region
     go_wp2
     have hs := blk_set k_t5 m (.int .i64 (G m + p))
     rw [arrK_set] at hs
     go_roundw
     case rel =>
      refine ⟨k + 1, _, by omega, ?_, ?_, (below_set bel (by omega) _ _).drew, blk_drew (blk_other k_t2 (by omega) _ _), blk_drew (blk_other k_t3 (by omega) _ _), blk_drew (blk_other k_t4 (by omega) _ _), blk_drew hs⟩
      ·
       (first | rfl | go_num)
      ·
       refine Lib.hid ⟨HC.out.1, ?_, HC.out.2.2⟩
       rw [show (16 * i + (k + 1)) * 4294836225 = (16 * i + k) * 4294836225 + 4294836225 by omega]; exact HC.out.2.1
     case measure => simp [intOf]; omega
end Go.Proofs.YtefpoollmbmkfaaDoor
