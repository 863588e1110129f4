/- custumalref05.carry. Conditions: no part is less than nought or more than 2^50. custumalref05.tidy. Conditions: no part is less than nought or more than 2^50. custumalref05.Add, Of, Parts. No conditions. custumalref05.Of and Parts. No conditions. custumalref05.Neg, Sub. Conditions: the number is not beyond the modulus. custumalref05.Mul. No conditions. -/
import Derived.Test.YtefpoollmbmkfaaDoorGc
import Derived.Test.YtefpoollmbmkfaaDoorGa
import Derived.Test.YtefpoollmbmkfaaDoorGb
import Derived.Test.YtefpoollmbmkfaaDoorEa
set_option linter.unusedSimpArgs false
set_option linter.unusedVariables false
namespace Go.Proofs.YtefpoollmbmkfaaDoor
set_option maxHeartbeats 4000000
set_option maxRecDepth 100000
open Go.RowKit

theorem Z85 (f : Nat → Int) (hf : okF f) (w : World) :
  Calls Tryd.prog 122 #[.agg (J1 .i64 16 f)] w fun e w' => Ret (.agg (J1 .i64 16 (Q2 (cr (cr (J0w f 16)))))) w w' e := by
 go_enter Tryd.func122, Tryd.ntmps122
 go_wp2_with fail
 refine wn2 (c1 := (J1 .i64 16 (f))) (t1 := 76) (c2 := (J1 .i64 16 (fun _ => 0))) (t2 := 76) fun W0 bel k_t1 k_t2 => ?_
 have lt_t1_0 := J5 k_t1
 have lt_t2_0 := J5 k_t2
 have HF := Lib.hid hf
 clear hf
 go_wp2_with fail
 go_loopw [3] (fun tt wr => ∃ (t : Nat) (fr : Nat → Int), t ≤ 3 ∧ tt = .int .i64 t ∧ fr = Z19 f t ∧ Below w.heap.size w wr ∧ Blk wr w.heap.size (J1 .i64 16 fr) 76 ∧ Blk wr (w.heap.size + 1) (J1 .i64 16 (fun _ => 0)) 76)
  (fun tt _ => (3 - intOf tt).toNat)
 case atStart =>
  exact ⟨0, f, by omega, rfl, rfl, bel, k_t1, k_t2⟩
 case round =>
  obtain ⟨t, fr, ht, rfl, hfr, bel, k_t1, k_t2⟩ := hrel
  have hfr' := Z3c f HF.out t
  rw [← hfr] at hfr'
  have HR := Lib.hid hfr'
  have HE := Lib.hid hfr
  clear hfr' hfr
  by_cases hexit : t = 3
  ·
   have _hx := hexit
   subst hexit
   go_upto_region 12 with fail
   have lt_t1_1 := J5 k_t1
   have lt_t2_1 := J5 k_t2
   refine Px 1 ?_
   refine XL ?_
   refine Q3 fun W2 hE => ?_
   refine Lp ?_ (J2 k_t2 hE) (cells := J1 .i64 16 (fr)) (h1 := (Y7 _ _ _))
   intro W3 hO h_
   refine J0 ?_
   replace k_t1 := ko k_t1 hE hO (by omega)
   replace k_t2 := h_
   replace bel := bwo bel hE hO bel.size (by omega)
   clear hO h_
   go_wp2
   refine bodyPost_ret (K6 rfl rfl k_t2 (by kernel_rfl) (by kernel_rfl)) rfl ⟨?_, bel⟩
   rw [HE.out, V1q f HF.out]
  ·
   have ht3 : t < 3 := by omega
   clear hexit
   have lt_t1_1 := J5 k_t1
   have lt_t2_1 := J5 k_t2
   obtain ⟨wo, rfl⟩ : ∃ wo : World, wo = wr := ⟨_, rfl⟩
   go_wp2_with fail
   go_loopw [4, 5] (fun oo ii wr => ∃ (k : Nat), k ≤ 16 ∧ ii = .int .i64 k ∧ oo = .int .i64 (ovr fr k : Int) ∧ Below w.heap.size w wr ∧ Blk wr w.heap.size (J1 .i64 16 (J6n k (Q2 (J0w fr 16)) fr)) 76 ∧ Blk wr (w.heap.size + 1) (J1 .i64 16 (fun _ => 0)) 76)
    (fun oo ii _ => (16 - intOf ii).toNat)
   case atStart =>
    rw [← J3y (Q2 (J0w fr 16)) fr] at k_t1
    refine ⟨0, by omega, rfl, ?_, bel, k_t1, k_t2⟩
    rw [Q9m]; rfl
   case round =>
    obtain ⟨k, hk, rfl, rfl, bel, k_t1, k_t2⟩ := hrel
    by_cases hexit : k = 16
    ·
     have _hx := hexit
     subst hexit
     rw [J52] at k_t1
     have c0 := (Q8 k_t1 0).trans (J6 _ _ _ _ (by omega))
     have f0 := K5 k_t1
     have b1 := J0q (J0w fr 16) 0
     have b2 := Q4u fr 1125899906842624 (fun j => (HR.out j).2) 16
     go_wp2
     have hs := V1 k_t1 0 (.int .i64 (Q2 (J0w fr 16) 0 + 38 * (ovr fr 16 : Int)))
     rw [J04] at hs
     go_roundw
     case rel =>
      exact ⟨t + 1, nxt fr, by omega, by go_num, by rw [HE.out]; rfl, Y8 bel (by omega) _ _, hs, J9 k_t2 (by omega) _ _⟩
     case measure => simp [intOf]; omega
    ·
     have hk3 : k < 16 := by omega
     have hk3' : (k : Int) < 16 := by omega
     clear hexit
     obtain ⟨s1, s2⟩ := Z5n fr HR.out k hk3
     have c0 := (Q8 k_t1 k).trans (J6 _ _ _ _ hk3)
     rw [J6o] at c0
     have f0 := K5 k_t1
     obtain ⟨l0, l1⟩ := HR.out k
     have l2 := Q4u fr 1125899906842624 (fun j => (HR.out j).2) k
     go_wp2
     have hs := V1 k_t1 k (.int .i64 (Q2 (J0w fr 16) k))
     rw [J4a] at hs
     go_roundw
     case rel => exact ⟨k + 1, by omega, by go_num, rfl, Y8 bel (by omega) _ _, hs, J9 k_t2 (by omega) _ _⟩
     case measure => simp [intOf]; omega
end Go.Proofs.YtefpoollmbmkfaaDoor

namespace Go.Proofs.YtefpoollmbmkfaaDoor
set_option maxHeartbeats 4000000
set_option maxRecDepth 100000
open Go.RowKit

theorem J62 (X Y k : Nat) (h : Y ≤ X) :
    (J27 X Y (k + 1) = 0 ∧ Q2 X k - Q2 Y k - (J27 X Y k : Int) = Q2 (X - Y) k) ∨
     (J27 X Y (k + 1) = 1 ∧ Q2 X k - Q2 Y k - (J27 X Y k : Int) < 0 ∧ Q2 X k - Q2 Y k - (J27 X Y k : Int) + 65536 = Q2 (X - Y) k) := by
  have r1 := J0q X k
  have r2 := J0q Y k
  have r3 := J70 X Y k
  have r4 := J0q (X - Y) k
  have r5 := J70 X Y (k + 1)
  have hs := Q4v X Y k h
  rcases Nat.lt_or_ge (J27 X Y (k + 1)) 1 with h0 | h1
  · rw [show J27 X Y (k + 1) = 0 by omega] at hs ⊢; exact .inl ⟨rfl, by omega⟩
  · rw [show J27 X Y (k + 1) = 1 by omega] at hs ⊢; exact .inr ⟨rfl, by omega, by omega⟩
theorem Z1a : ∀ k, k < 16 → Q2 PP k = if k = 0 then 65517 else if k = 15 then 32767 else 65535 := by
  intro k hk
  have : k = 0 ∨ k = 1 ∨ k = 2 ∨ k = 3 ∨ k = 4 ∨ k = 5 ∨ k = 6 ∨ k = 7 ∨ k = 8 ∨ k = 9 ∨ k = 10 ∨ k = 11 ∨ k = 12 ∨ k = 13 ∨ k = 14 ∨ k = 15 := by omega
  rcases this with rfl | rfl | rfl | rfl | rfl | rfl | rfl | rfl | rfl | rfl | rfl | rfl | rfl | rfl | rfl | rfl <;> decide +kernel
theorem Q4w (N k : Nat) (hk : k < 16) : Q2 (N + Z0) k = Q2 N k := by
  unfold Q2
  obtain ⟨d, hd⟩ : ∃ d, Z0 = 2 ^ (16 * k) * (65536 * 2 ^ d) := ⟨16 * (15 - k), by
    rw [show (65536 : Nat) = 2 ^ 16 by decide, ← Nat.pow_add, ← Nat.pow_add, show 16 * k + (16 + 16 * (15 - k)) = 256 by omega]; decide⟩
  rw [hd, Nat.add_mul_div_left _ _ (Nat.two_pow_pos _), Nat.add_mul_mod_self_left]
theorem Z3d (N : Nat) (hN : N < Z0) : J27 (N + Z0) PP 16 = if N < PP then 1 else 0 := by
  unfold J27
  rw [show (2 : Nat) ^ (16 * 16) = Z0 by decide, Nat.add_mod_right, Nat.mod_eq_of_lt hN, Nat.mod_eq_of_lt J7x]
theorem Y3m (N : Nat) (hN : N < Z0) (h : ¬ N < PP) : J1 .i64 16 (Q2 (N + Z0 - PP)) = J1 .i64 16 (Q2 (N - PP)) := by
  apply J0d
  intro j hj
  rw [show N + Z0 - PP = (N - PP) + Z0 by omega, Q4w _ _ hj]
theorem Z86 (V : Nat) : cr V % PP = V % PP := by
  unfold cr
  have hd := Nat.div_add_mod V Z0
  conv => rhs; rw [← hd]
  rw [show Z0 = 2 * PP + 38 from PP_two.symm, show (2 * PP + 38) * (V / (2 * PP + 38)) + V % (2 * PP + 38) = V % (2 * PP + 38) + 38 * (V / (2 * PP + 38)) + PP * (2 * (V / (2 * PP + 38))) by rw [Nat.add_mul, Nat.mul_left_comm PP, Nat.mul_assoc]; omega, Nat.add_mul_mod_self_left]

theorem Q43 (f : Nat → Int) (hf : okF f) (w : World) :
  Calls Tryd.prog 117 #[.agg (J1 .i64 16 f)] w fun e w' => Ret (A16 (J0w f 16 % PP)) w w' e := by
 go_enter Tryd.func117, Tryd.ntmps117
 go_upto_region 1 with fail
 refine wn2 (c1 := (J1 .i64 16 (f))) (t1 := 76) (c2 := (J1 .i64 16 (fun _ => 0))) (t2 := 76) fun W0 bel k_t1 k_t2 => ?_
 have lt_t1_0 := J5 k_t1
 have lt_t2_0 := J5 k_t2
 have c_c := Z85 f hf
 obtain ⟨W, hW⟩ := V2 (cr (cr (J0w f 16)))
 rw [← hW] at c_c
 have bW : W < Z0 := by rw [hW]; exact Q9n _ (Q87 f hf 16)
 have HW := Lib.hid hW
 have BW := Lib.hid bW
 clear hW bW
 refine Px 2 ?_
 refine XL ?_
 refine Xf ?_ (fun W hW => c_c W)
 refine Q3 fun W1 hE => ?_
 refine LS ?_ (J2 k_t1 hE) (g := w.heap.size) (cells := J1 .i64 16 (Q2 W)) (h1 := (Y7 _ _ _))
 refine J0 ?_
 have hF : Below w.heap.size w (W1.setRow w.heap.size (J1 .i64 16 (Q2 W))) ∧ Blk (W1.setRow w.heap.size (J1 .i64 16 (Q2 W))) w.heap.size (J1 .i64 16 (Q2 W)) 76 ∧ Blk (W1.setRow w.heap.size (J1 .i64 16 (Q2 W))) (w.heap.size + 1) (J1 .i64 16 (fun _ => 0)) 76 := ⟨(Y5 (Z5 bel hE bel.size) (by omega) _), (V0 (J2 k_t1 hE) (J1 .i64 16 (Q2 W))), (J4 (J2 k_t2 hE) (by omega) _)⟩
 generalize (W1.setRow w.heap.size (J1 .i64 16 (Q2 W))) = W2 at hF ⊢
 clear bel k_t1 k_t2
 obtain ⟨bel, k_t1, k_t2⟩ := hF
 have lt_t1_2 := J5 k_t1
 have lt_t2_2 := J5 k_t2
 go_wp2_with fail
 go_loopw [3] (fun tt wr => ∃ (t N : Nat), t ≤ 3 ∧ tt = .int .i64 t ∧ N + t * PP = W ∧ Below w.heap.size w wr ∧ Blk wr w.heap.size (J1 .i64 16 (Q2 N)) 76 ∧ Blk wr (w.heap.size + 1) (J1 .i64 16 (fun _ => 0)) 76)
  (fun tt _ => (3 - intOf tt).toNat)
 case atStart =>
  exact ⟨0, W, by omega, rfl, by omega, bel, k_t1, k_t2⟩
 case round =>
  obtain ⟨t, N, ht, rfl, hN, bel, k_t1, k_t2⟩ := hrel
  have bN : N < Z0 := by have := BW.out; omega
  have HN := Lib.hid hN
  have BN := Lib.hid bN
  clear hN bN
  obtain ⟨M, hM⟩ := V2 (N + Z0)
  obtain ⟨D, hD⟩ := V2 (N + Z0 - PP)
  have HM := Lib.hid hM
  have HDD := Lib.hid hD
  clear hM hD
  by_cases hexit : t = 3
  ·
   have _hx := hexit
   exfalso
   have := HN.out
   have := BW.out
   subst hexit
   unfold Z0 PP at *; omega
  ·
   have ht3 : t < 3 := by omega
   clear hexit
   by_cases hlt : N < PP
   ·
    have HL := Lib.hid hlt
    clear hlt
    go_upto_region 5 with fail
    have lt_t1_3 := J5 k_t1
    have lt_t2_3 := J5 k_t2
    refine Px1 1 4 (z := J1 .i64 16 (fun _ => 0)) (t := 76) ?_
    refine XL ?_
    refine XN ?_
    intro Q0s W4 n_t4_4 hE k_t4
    have sz_4 := bel.size
    skip
    refine Lp ?_ k_t4 (cells := J1 .i64 16 (Q2 N)) (h1 := (Y7 _ _ _))
    intro W5 hO h_
    refine J0 ?_
    replace k_t1 := ko k_t1 hE hO (by omega)
    replace k_t2 := ko k_t2 hE hO (by omega)
    replace k_t4 := h_
    replace bel := bwo bel hE hO bel.size (by omega)
    clear hO h_
    have c0 := (Q8 k_t4 0).trans (J6 _ _ _ _ (by omega))
    have f0 := K5 k_t4
    have lb := J0q N 0
    go_wp2_with fail
    have hs := V1 k_t4 0 (.int .i64 (Q2 N 0 - 65517))
    rw [J04] at hs
    have hF := And.intro (Y8 bel (show w.heap.size ≤ Q0s by omega) 0 (.int .i64 (Q2 N 0 - 65517))) (And.intro (J9 k_t1 (show w.heap.size ≠ Q0s by omega) 0 (.int .i64 (Q2 N 0 - 65517))) (And.intro (J9 k_t2 (show w.heap.size + 1 ≠ Q0s by omega) 0 (.int .i64 (Q2 N 0 - 65517))) hs))
    generalize W5.setCell ⟨Q0s, 0, none⟩ (.int .i64 (Q2 N 0 - 65517)) = Wm at hF ⊢
    clear bel k_t1 k_t2 k_t4 c0 f0 lb hs
    obtain ⟨bel, k_t1, k_t2, k_t4⟩ := hF
    have lt_t4_5 := J5 k_t4
    go_wp2_with fail
    go_loopw [5, 6] (fun oo ii wr => ∃ (k : Nat), k ≤ 16 ∧ ii = .int .i64 k ∧ oo = .int .i64 (J27 M PP k : Int) ∧ Below w.heap.size w wr ∧ Blk wr w.heap.size (J1 .i64 16 (Q2 N)) 76 ∧ Blk wr (w.heap.size + 1) (J1 .i64 16 (fun _ => 0)) 76 ∧ Blk wr Q0s (J1 .i64 16 (J6n k (Q2 D) (upd (Q2 N) 0 (Q2 N 0 - 65517)))) 76)
     (fun oo ii _ => (16 - intOf ii).toNat)
    case atStart =>
     refine ⟨0, by omega, rfl, by rw [J8o]; rfl, bel, k_t1, k_t2, ?_⟩
     rw [J3y]
     exact k_t4
    case round =>
     obtain ⟨k, hk, rfl, rfl, bel, k_t1, k_t2, k_t4⟩ := hrel
     by_cases hexit : k = 16
     ·
      have _hx := hexit
      subst hexit
      rw [J52] at k_t4
      have hbe := Z3d N BN.out
      rw [← HM.out] at hbe
      (first | rw [if_pos HL.out] at hbe | rw [if_neg HL.out] at hbe)
      rw [hbe]
      clear hbe
      go_upto_region 21 with fail
      have lt_t1_6 := J5 k_t1
      have lt_t2_6 := J5 k_t2
      have lt_t4_6 := J5 k_t4
      refine Px 1 ?_
      refine XL ?_
      refine Q3 fun W7 hE => ?_
      refine Lp ?_ (J2 k_t2 hE) (cells := J1 .i64 16 (Q2 N)) (h1 := (Y7 _ _ _))
      intro W8 hO h_
      refine J0 ?_
      replace k_t1 := ko k_t1 hE hO (by omega)
      replace k_t2 := h_
      replace k_t4 := ko k_t4 hE hO (by omega)
      replace bel := bwo bel hE hO bel.size (by omega)
      clear hO h_
      go_wp2
      refine bodyPost_ret (K6 rfl rfl k_t2 (by kernel_rfl) (by kernel_rfl)) rfl ⟨?_, bel⟩
      rw [show J0w f 16 % PP = N by rw [← Z86 (J0w f 16), ← Z86 (cr (J0w f 16)), ← HW.out, ← HN.out, Nat.add_mul_mod_self_right, Nat.mod_eq_of_lt HL.out]]; rfl
     ·
      have hk3 : k < 16 := by omega
      have hk3' : (k : Int) < 16 := by omega
      clear hexit
      have hsp := J62 M PP k (by rw [HM.out]; unfold Z0 PP; omega)
      rw [show M - PP = D by rw [HM.out, HDD.out], show Q2 M k = Q2 N k by rw [HM.out, Q4w N k hk3], Z1a k hk3] at hsp
      have c0 := (Q8 k_t4 k).trans (J6 _ _ _ _ hk3)
      rw [J6o] at c0
      have f0 := K5 k_t4
      have lb := J0q N k
      have bb := J70 M PP k
      have hset : ∀ v, v = Q2 D k → (J1 .i64 16 (J6n k (Q2 D) (upd (Q2 N) 0 (Q2 N 0 - 65517)))).setIfInBounds k (.int .i64 v) = J1 .i64 16 (J6n (k + 1) (Q2 D) (upd (Q2 N) 0 (Q2 N 0 - 65517))) := fun v hv => by rw [hv]; exact J4a _ _ _ _ _
      have HS := Lib.hid hset
      clear hset
      obtain ⟨bo, hbo⟩ := V2 (J27 M PP k)
      rw [← hbo] at hsp bb ⊢
      clear hbo
      by_cases e0 : k = 0
      ·
       subst e0
       rw [if_pos rfl] at hsp
       have hu : upd (Q2 N) 0 (Q2 N 0 - 65517) 0 = Q2 N 0 - 65517 := J31 _ _ _
       rw [hu] at c0
       clear hu
       obtain ⟨x, hx⟩ := V2 (Q2 N 0)
       obtain ⟨d, hdd⟩ := V2 (Q2 D 0)
       have lD := J0q D 0
       rw [← hx] at c0 hsp lb
       rw [← hdd] at hsp lD
       have HD := Lib.hid hdd
       clear hx hdd
       rcases hsp with ⟨h1, h2⟩ | ⟨h1, h2, h3⟩
       ·
        have hneg : ¬ x - 65517 - (bo : Int) < 0 := by omega
        have H1 := Lib.hid h1
        have H2 := Lib.hid h2
        clear h1 h2 lD
        go_wp2
        have h1 := H1.out
        go_roundw
        case rel =>
         have hs := (V1 k_t4 0 (.int .i64 (x - 65517 - (bo : Int))))
         rw [HS.out (x - 65517 - (bo : Int)) (H2.out.trans HD.out)] at hs
         refine ⟨0 + 1, by omega, ?_, ?_, ?_, ?_, ?_, hs⟩
         ·
          go_num
         ·
          rw [h1]; rfl
         ·
          exact (Y8 bel (by omega) _ _)
         ·
          exact (J9 k_t1 (by omega) _ _)
         ·
          exact (J9 k_t2 (by omega) _ _)
        case measure => simp [intOf] <;> omega
       ·
        have H1 := Lib.hid h1
        have H2 := Lib.hid h3
        clear h1 h3 lD
        go_wp2
        have h1 := H1.out
        go_roundw
        case rel =>
         have hs := (V1 (V1 k_t4 0 (.int .i64 (x - 65517 - (bo : Int)))) 0 (.int .i64 (x - 65517 - (bo : Int) + 65536)))
         simp only [Array.setIfInBounds_setIfInBounds] at hs
         rw [HS.out (x - 65517 - (bo : Int) + 65536) (H2.out.trans HD.out)] at hs
         refine ⟨0 + 1, by omega, ?_, ?_, ?_, ?_, ?_, hs⟩
         ·
          go_num
         ·
          rw [h1]; rfl
         ·
          exact (Y8 (Y8 bel (by omega) _ _) (by omega) _ _)
         ·
          exact (J9 (J9 k_t1 (by omega) _ _) (by omega) _ _)
         ·
          exact (J9 (J9 k_t2 (by omega) _ _) (by omega) _ _)
        case measure => simp [intOf] <;> omega
      ·
       rw [if_neg e0] at hsp
       rw [J19 _ _ _ _ e0] at c0
       by_cases e15 : k = 15
       ·
        subst e15
        rw [if_pos rfl] at hsp
        clear e0
        obtain ⟨x, hx⟩ := V2 (Q2 N 15)
        obtain ⟨d, hdd⟩ := V2 (Q2 D 15)
        have lD := J0q D 15
        rw [← hx] at c0 hsp lb
        rw [← hdd] at hsp lD
        have HD := Lib.hid hdd
        clear hx hdd
        rcases hsp with ⟨h1, h2⟩ | ⟨h1, h2, h3⟩
        ·
         have hneg : ¬ x - 32767 - (bo : Int) < 0 := by omega
         have H1 := Lib.hid h1
         have H2 := Lib.hid h2
         clear h1 h2 lD
         go_wp2
         have h1 := H1.out
         go_roundw
         case rel =>
          have hs := (V1 (V1 k_t4 15 (.int .i64 (x - 32767))) 15 (.int .i64 (x - 32767 - (bo : Int))))
          simp only [Array.setIfInBounds_setIfInBounds] at hs
          rw [HS.out (x - 32767 - (bo : Int)) (H2.out.trans HD.out)] at hs
          refine ⟨15 + 1, by omega, ?_, ?_, ?_, ?_, ?_, hs⟩
          ·
           go_num
          ·
           rw [h1]; rfl
          ·
           exact (Y8 (Y8 bel (by omega) _ _) (by omega) _ _)
          ·
           exact (J9 (J9 k_t1 (by omega) _ _) (by omega) _ _)
          ·
           exact (J9 (J9 k_t2 (by omega) _ _) (by omega) _ _)
         case measure => simp [intOf] <;> omega
        ·
         have H1 := Lib.hid h1
         have H2 := Lib.hid h3
         clear h1 h3 lD
         go_wp2
         have h1 := H1.out
         go_roundw
         case rel =>
          have hs := (V1 (V1 (V1 k_t4 15 (.int .i64 (x - 32767))) 15 (.int .i64 (x - 32767 - (bo : Int)))) 15 (.int .i64 (x - 32767 - (bo : Int) + 65536)))
          simp only [Array.setIfInBounds_setIfInBounds] at hs
          rw [HS.out (x - 32767 - (bo : Int) + 65536) (H2.out.trans HD.out)] at hs
          refine ⟨15 + 1, by omega, ?_, ?_, ?_, ?_, ?_, hs⟩
          ·
           go_num
          ·
           rw [h1]; rfl
          ·
           exact (Y8 (Y8 (Y8 bel (by omega) _ _) (by omega) _ _) (by omega) _ _)
          ·
           exact (J9 (J9 (J9 k_t1 (by omega) _ _) (by omega) _ _) (by omega) _ _)
          ·
           exact (J9 (J9 (J9 k_t2 (by omega) _ _) (by omega) _ _) (by omega) _ _)
         case measure => simp [intOf] <;> omega
       ·
        rw [if_neg e15] at hsp
        have p0 : (0 : Int) < (k : Int) := by omega
        have p15 : (k : Int) < 15 := by omega
        have p15b : ((k : Int) == 15) = false := by rw [beq_eq_false_iff_ne]; omega
        have g1 : decide ((0 : Int) < (k : Int)) = true := decide_eq_true p0
        have g2 : decide ((k : Int) < 15) = true := decide_eq_true p15
        have g3 : 0 < k := by omega
        have g4 : decide (0 < k) = true := decide_eq_true g3
        have g5 : k < 15 := by omega
        have g6 : decide (k < 15) = true := decide_eq_true g5
        have g7 : (k == 15) = false := by rw [beq_eq_false_iff_ne]; omega
        clear e0 e15
        obtain ⟨x, hx⟩ := V2 (Q2 N k)
        obtain ⟨d, hdd⟩ := V2 (Q2 D k)
        have lD := J0q D k
        rw [← hx] at c0 hsp lb
        rw [← hdd] at hsp lD
        have HD := Lib.hid hdd
        clear hx hdd
        rcases hsp with ⟨h1, h2⟩ | ⟨h1, h2, h3⟩
        ·
         have hneg : ¬ x - 65535 - (bo : Int) < 0 := by omega
         have H1 := Lib.hid h1
         have H2 := Lib.hid h2
         clear h1 h2 lD
         go_wp2
         have h1 := H1.out
         go_roundw
         case rel =>
          have hs := (V1 (V1 k_t4 k (.int .i64 (x - 65535))) k (.int .i64 (x - 65535 - (bo : Int))))
          simp only [Array.setIfInBounds_setIfInBounds] at hs
          rw [HS.out (x - 65535 - (bo : Int)) (H2.out.trans HD.out)] at hs
          refine ⟨k + 1, by omega, ?_, ?_, ?_, ?_, ?_, hs⟩
          ·
           go_num
          ·
           rw [h1]; rfl
          ·
           exact (Y8 (Y8 bel (by omega) _ _) (by omega) _ _)
          ·
           exact (J9 (J9 k_t1 (by omega) _ _) (by omega) _ _)
          ·
           exact (J9 (J9 k_t2 (by omega) _ _) (by omega) _ _)
         case measure => simp [intOf] <;> omega
        ·
         have H1 := Lib.hid h1
         have H2 := Lib.hid h3
         clear h1 h3 lD
         go_wp2
         have h1 := H1.out
         go_roundw
         case rel =>
          have hs := (V1 (V1 (V1 k_t4 k (.int .i64 (x - 65535))) k (.int .i64 (x - 65535 - (bo : Int)))) k (.int .i64 (x - 65535 - (bo : Int) + 65536)))
          simp only [Array.setIfInBounds_setIfInBounds] at hs
          rw [HS.out (x - 65535 - (bo : Int) + 65536) (H2.out.trans HD.out)] at hs
          refine ⟨k + 1, by omega, ?_, ?_, ?_, ?_, ?_, hs⟩
          ·
           go_num
          ·
           rw [h1]; rfl
          ·
           exact (Y8 (Y8 (Y8 bel (by omega) _ _) (by omega) _ _) (by omega) _ _)
          ·
           exact (J9 (J9 (J9 k_t1 (by omega) _ _) (by omega) _ _) (by omega) _ _)
          ·
           exact (J9 (J9 (J9 k_t2 (by omega) _ _) (by omega) _ _) (by omega) _ _)
         case measure => simp [intOf] <;> omega
   ·
    have HL := Lib.hid hlt
    clear hlt
    go_upto_region 5 with fail
    have lt_t1_3 := J5 k_t1
    have lt_t2_3 := J5 k_t2
    refine Px1 1 4 (z := J1 .i64 16 (fun _ => 0)) (t := 76) ?_
    refine XL ?_
    refine XN ?_
    intro Q0s W4 n_t4_4 hE k_t4
    have sz_4 := bel.size
    skip
    refine Lp ?_ k_t4 (cells := J1 .i64 16 (Q2 N)) (h1 := (Y7 _ _ _))
    intro W5 hO h_
    refine J0 ?_
    replace k_t1 := ko k_t1 hE hO (by omega)
    replace k_t2 := ko k_t2 hE hO (by omega)
    replace k_t4 := h_
    replace bel := bwo bel hE hO bel.size (by omega)
    clear hO h_
    have c0 := (Q8 k_t4 0).trans (J6 _ _ _ _ (by omega))
    have f0 := K5 k_t4
    have lb := J0q N 0
    go_wp2_with fail
    have hs := V1 k_t4 0 (.int .i64 (Q2 N 0 - 65517))
    rw [J04] at hs
    have hF := And.intro (Y8 bel (show w.heap.size ≤ Q0s by omega) 0 (.int .i64 (Q2 N 0 - 65517))) (And.intro (J9 k_t1 (show w.heap.size ≠ Q0s by omega) 0 (.int .i64 (Q2 N 0 - 65517))) (And.intro (J9 k_t2 (show w.heap.size + 1 ≠ Q0s by omega) 0 (.int .i64 (Q2 N 0 - 65517))) hs))
    generalize W5.setCell ⟨Q0s, 0, none⟩ (.int .i64 (Q2 N 0 - 65517)) = Wm at hF ⊢
    clear bel k_t1 k_t2 k_t4 c0 f0 lb hs
    obtain ⟨bel, k_t1, k_t2, k_t4⟩ := hF
    have lt_t4_5 := J5 k_t4
    go_wp2_with fail
    go_loopw [5, 6] (fun oo ii wr => ∃ (k : Nat), k ≤ 16 ∧ ii = .int .i64 k ∧ oo = .int .i64 (J27 M PP k : Int) ∧ Below w.heap.size w wr ∧ Blk wr w.heap.size (J1 .i64 16 (Q2 N)) 76 ∧ Blk wr (w.heap.size + 1) (J1 .i64 16 (fun _ => 0)) 76 ∧ Blk wr Q0s (J1 .i64 16 (J6n k (Q2 D) (upd (Q2 N) 0 (Q2 N 0 - 65517)))) 76)
     (fun oo ii _ => (16 - intOf ii).toNat)
    case atStart =>
     refine ⟨0, by omega, rfl, by rw [J8o]; rfl, bel, k_t1, k_t2, ?_⟩
     rw [J3y]
     exact k_t4
    case round =>
     obtain ⟨k, hk, rfl, rfl, bel, k_t1, k_t2, k_t4⟩ := hrel
     by_cases hexit : k = 16
     ·
      have _hx := hexit
      subst hexit
      rw [J52] at k_t4
      have hbe := Z3d N BN.out
      rw [← HM.out] at hbe
      (first | rw [if_pos HL.out] at hbe | rw [if_neg HL.out] at hbe)
      rw [hbe]
      clear hbe
      go_upto_region 22 with fail
      have lt_t1_6 := J5 k_t1
      have lt_t2_6 := J5 k_t2
      have lt_t4_6 := J5 k_t4
      refine Px 1 ?_
      refine XL ?_
      refine Q3 fun W7 hE => ?_
      refine LS ?_ (J2 k_t1 hE) (g := w.heap.size) (cells := J1 .i64 16 (Q2 D)) (h1 := (Y7 _ _ _))
      refine J0 ?_
      have hF : Below w.heap.size w (W7.setRow w.heap.size (J1 .i64 16 (Q2 D))) ∧ Blk (W7.setRow w.heap.size (J1 .i64 16 (Q2 D))) w.heap.size (J1 .i64 16 (Q2 D)) 76 ∧ Blk (W7.setRow w.heap.size (J1 .i64 16 (Q2 D))) (w.heap.size + 1) (J1 .i64 16 (fun _ => 0)) 76 ∧ Blk (W7.setRow w.heap.size (J1 .i64 16 (Q2 D))) Q0s (J1 .i64 16 (Q2 D)) 76 := ⟨(Y5 (Z5 bel hE bel.size) (by omega) _), (V0 (J2 k_t1 hE) (J1 .i64 16 (Q2 D))), (J4 (J2 k_t2 hE) (by omega) _), (J4 (J2 k_t4 hE) (by omega) _)⟩
      generalize (W7.setRow w.heap.size (J1 .i64 16 (Q2 D))) = W8 at hF ⊢
      clear bel k_t1 k_t2 k_t4
      obtain ⟨bel, k_t1, k_t2, k_t4⟩ := hF
      go_wp2_with fail
      go_roundw
      case rel =>
       refine ⟨t + 1, N - PP, by omega, by go_num, by have := HN.out; have := HL.out; rw [Nat.add_mul]; omega, bel, ?_, k_t2⟩
       rw [← Y3m N BN.out HL.out, ← HDD.out]; exact k_t1
      case measure => simp [intOf]; omega
     ·
      have hk3 : k < 16 := by omega
      have hk3' : (k : Int) < 16 := by omega
      clear hexit
      have hsp := J62 M PP k (by rw [HM.out]; unfold Z0 PP; omega)
      rw [show M - PP = D by rw [HM.out, HDD.out], show Q2 M k = Q2 N k by rw [HM.out, Q4w N k hk3], Z1a k hk3] at hsp
      have c0 := (Q8 k_t4 k).trans (J6 _ _ _ _ hk3)
      rw [J6o] at c0
      have f0 := K5 k_t4
      have lb := J0q N k
      have bb := J70 M PP k
      have hset : ∀ v, v = Q2 D k → (J1 .i64 16 (J6n k (Q2 D) (upd (Q2 N) 0 (Q2 N 0 - 65517)))).setIfInBounds k (.int .i64 v) = J1 .i64 16 (J6n (k + 1) (Q2 D) (upd (Q2 N) 0 (Q2 N 0 - 65517))) := fun v hv => by rw [hv]; exact J4a _ _ _ _ _
      have HS := Lib.hid hset
      clear hset
      obtain ⟨bo, hbo⟩ := V2 (J27 M PP k)
      rw [← hbo] at hsp bb ⊢
      clear hbo
      by_cases e0 : k = 0
      ·
       subst e0
       rw [if_pos rfl] at hsp
       have hu : upd (Q2 N) 0 (Q2 N 0 - 65517) 0 = Q2 N 0 - 65517 := J31 _ _ _
       rw [hu] at c0
       clear hu
       obtain ⟨x, hx⟩ := V2 (Q2 N 0)
       obtain ⟨d, hdd⟩ := V2 (Q2 D 0)
       have lD := J0q D 0
       rw [← hx] at c0 hsp lb
       rw [← hdd] at hsp lD
       have HD := Lib.hid hdd
       clear hx hdd
       rcases hsp with ⟨h1, h2⟩ | ⟨h1, h2, h3⟩
       ·
        have hneg : ¬ x - 65517 - (bo : Int) < 0 := by omega
        have H1 := Lib.hid h1
        have H2 := Lib.hid h2
        clear h1 h2 lD
        go_wp2
        have h1 := H1.out
        go_roundw
        case rel =>
         have hs := (V1 k_t4 0 (.int .i64 (x - 65517 - (bo : Int))))
         rw [HS.out (x - 65517 - (bo : Int)) (H2.out.trans HD.out)] at hs
         refine ⟨0 + 1, by omega, ?_, ?_, ?_, ?_, ?_, hs⟩
         ·
          go_num
         ·
          rw [h1]; rfl
         ·
          exact (Y8 bel (by omega) _ _)
         ·
          exact (J9 k_t1 (by omega) _ _)
         ·
          exact (J9 k_t2 (by omega) _ _)
        case measure => simp [intOf] <;> omega
       ·
        have H1 := Lib.hid h1
        have H2 := Lib.hid h3
        clear h1 h3 lD
        go_wp2
        have h1 := H1.out
        go_roundw
        case rel =>
         have hs := (V1 (V1 k_t4 0 (.int .i64 (x - 65517 - (bo : Int)))) 0 (.int .i64 (x - 65517 - (bo : Int) + 65536)))
         simp only [Array.setIfInBounds_setIfInBounds] at hs
         rw [HS.out (x - 65517 - (bo : Int) + 65536) (H2.out.trans HD.out)] at hs
         refine ⟨0 + 1, by omega, ?_, ?_, ?_, ?_, ?_, hs⟩
         ·
          go_num
         ·
          rw [h1]; rfl
         ·
          exact (Y8 (Y8 bel (by omega) _ _) (by omega) _ _)
         ·
          exact (J9 (J9 k_t1 (by omega) _ _) (by omega) _ _)
         ·
          exact (J9 (J9 k_t2 (by omega) _ _) (by omega) _ _)
        case measure => simp [intOf] <;> omega
      ·
       rw [if_neg e0] at hsp
       rw [J19 _ _ _ _ e0] at c0
       by_cases e15 : k = 15
       ·
        subst e15
        rw [if_pos rfl] at hsp
        clear e0
        obtain ⟨x, hx⟩ := V2 (Q2 N 15)
        obtain ⟨d, hdd⟩ := V2 (Q2 D 15)
        have lD := J0q D 15
        rw [← hx] at c0 hsp lb
        rw [← hdd] at hsp lD
        have HD := Lib.hid hdd
        clear hx hdd
        rcases hsp with ⟨h1, h2⟩ | ⟨h1, h2, h3⟩
        ·
         have hneg : ¬ x - 32767 - (bo : Int) < 0 := by omega
         have H1 := Lib.hid h1
         have H2 := Lib.hid h2
         clear h1 h2 lD
         go_wp2
         have h1 := H1.out
         go_roundw
         case rel =>
          have hs := (V1 (V1 k_t4 15 (.int .i64 (x - 32767))) 15 (.int .i64 (x - 32767 - (bo : Int))))
          simp only [Array.setIfInBounds_setIfInBounds] at hs
          rw [HS.out (x - 32767 - (bo : Int)) (H2.out.trans HD.out)] at hs
          refine ⟨15 + 1, by omega, ?_, ?_, ?_, ?_, ?_, hs⟩
          ·
           go_num
          ·
           rw [h1]; rfl
          ·
           exact (Y8 (Y8 bel (by omega) _ _) (by omega) _ _)
          ·
           exact (J9 (J9 k_t1 (by omega) _ _) (by omega) _ _)
          ·
           exact (J9 (J9 k_t2 (by omega) _ _) (by omega) _ _)
         case measure => simp [intOf] <;> omega
        ·
         have H1 := Lib.hid h1
         have H2 := Lib.hid h3
         clear h1 h3 lD
         go_wp2
         have h1 := H1.out
         go_roundw
         case rel =>
          have hs := (V1 (V1 (V1 k_t4 15 (.int .i64 (x - 32767))) 15 (.int .i64 (x - 32767 - (bo : Int)))) 15 (.int .i64 (x - 32767 - (bo : Int) + 65536)))
          simp only [Array.setIfInBounds_setIfInBounds] at hs
          rw [HS.out (x - 32767 - (bo : Int) + 65536) (H2.out.trans HD.out)] at hs
          refine ⟨15 + 1, by omega, ?_, ?_, ?_, ?_, ?_, hs⟩
          ·
           go_num
          ·
           rw [h1]; rfl
          ·
           exact (Y8 (Y8 (Y8 bel (by omega) _ _) (by omega) _ _) (by omega) _ _)
          ·
           exact (J9 (J9 (J9 k_t1 (by omega) _ _) (by omega) _ _) (by omega) _ _)
          ·
           exact (J9 (J9 (J9 k_t2 (by omega) _ _) (by omega) _ _) (by omega) _ _)
         case measure => simp [intOf] <;> omega
       ·
        rw [if_neg e15] at hsp
        have p0 : (0 : Int) < (k : Int) := by omega
        have p15 : (k : Int) < 15 := by omega
        have p15b : ((k : Int) == 15) = false := by rw [beq_eq_false_iff_ne]; omega
        have g1 : decide ((0 : Int) < (k : Int)) = true := decide_eq_true p0
        have g2 : decide ((k : Int) < 15) = true := decide_eq_true p15
        have g3 : 0 < k := by omega
        have g4 : decide (0 < k) = true := decide_eq_true g3
        have g5 : k < 15 := by omega
        have g6 : decide (k < 15) = true := decide_eq_true g5
        have g7 : (k == 15) = false := by rw [beq_eq_false_iff_ne]; omega
        clear e0 e15
        obtain ⟨x, hx⟩ := V2 (Q2 N k)
        obtain ⟨d, hdd⟩ := V2 (Q2 D k)
        have lD := J0q D k
        rw [← hx] at c0 hsp lb
        rw [← hdd] at hsp lD
        have HD := Lib.hid hdd
        clear hx hdd
        rcases hsp with ⟨h1, h2⟩ | ⟨h1, h2, h3⟩
        ·
         have hneg : ¬ x - 65535 - (bo : Int) < 0 := by omega
         have H1 := Lib.hid h1
         have H2 := Lib.hid h2
         clear h1 h2 lD
         go_wp2
         have h1 := H1.out
         go_roundw
         case rel =>
          have hs := (V1 (V1 k_t4 k (.int .i64 (x - 65535))) k (.int .i64 (x - 65535 - (bo : Int))))
          simp only [Array.setIfInBounds_setIfInBounds] at hs
          rw [HS.out (x - 65535 - (bo : Int)) (H2.out.trans HD.out)] at hs
          refine ⟨k + 1, by omega, ?_, ?_, ?_, ?_, ?_, hs⟩
          ·
           go_num
          ·
           rw [h1]; rfl
          ·
           exact (Y8 (Y8 bel (by omega) _ _) (by omega) _ _)
          ·
           exact (J9 (J9 k_t1 (by omega) _ _) (by omega) _ _)
          ·
           exact (J9 (J9 k_t2 (by omega) _ _) (by omega) _ _)
         case measure => simp [intOf] <;> omega
        ·
         have H1 := Lib.hid h1
         have H2 := Lib.hid h3
         clear h1 h3 lD
         go_wp2
         have h1 := H1.out
         go_roundw
         case rel =>
          have hs := (V1 (V1 (V1 k_t4 k (.int .i64 (x - 65535))) k (.int .i64 (x - 65535 - (bo : Int)))) k (.int .i64 (x - 65535 - (bo : Int) + 65536)))
          simp only [Array.setIfInBounds_setIfInBounds] at hs
          rw [HS.out (x - 65535 - (bo : Int) + 65536) (H2.out.trans HD.out)] at hs
          refine ⟨k + 1, by omega, ?_, ?_, ?_, ?_, ?_, hs⟩
          ·
           go_num
          ·
           rw [h1]; rfl
          ·
           exact (Y8 (Y8 (Y8 bel (by omega) _ _) (by omega) _ _) (by omega) _ _)
          ·
           exact (J9 (J9 (J9 k_t1 (by omega) _ _) (by omega) _ _) (by omega) _ _)
          ·
           exact (J9 (J9 (J9 k_t2 (by omega) _ _) (by omega) _ _) (by omega) _ _)
         case measure => simp [intOf] <;> omega
end Go.Proofs.YtefpoollmbmkfaaDoor

namespace Go.Proofs.YtefpoollmbmkfaaDoor
set_option maxHeartbeats 4000000
set_option maxRecDepth 100000
open Go.RowKit

theorem Z3e (X : Nat) : okF (Q2 X) := fun j => by have := J0q X j; omega
theorem Y3n (X Y : Nat) : okF (fun j => Q2 X j + Q2 Y j) := fun j => by have := J0q X j; have := J0q Y j; dsimp only; omega
theorem Z87 (X Y : Nat) (hX : X < Z0) (hY : Y < Z0) : J0w (fun j => Q2 X j + Q2 Y j) 16 = X + Y := by
  rw [Q4x _ _ (fun j => (J0q X j).1) (fun j => (J0q Y j).1), J9k, J9k, show (2 : Nat) ^ (16 * 16) = Z0 by decide, Nat.mod_eq_of_lt hX, Nat.mod_eq_of_lt hY]
theorem Q9o (X : Nat) (hX : X < Z0) : J0w (Q2 X) 16 = X := by
  rw [J9k, show (2 : Nat) ^ (16 * 16) = Z0 by decide, Nat.mod_eq_of_lt hX]
theorem J9l (X Y : Nat) (hX : X < Z0) (hY : Y < Z0) (w : World) :
  Calls Tryd.prog 100 #[A16 X, A16 Y] w fun e w' => Ret (A16 ((X + Y) % PP)) w w' e := by
 have HX := Lib.hid hX
 have HY := Lib.hid hY
 clear hX hY
 unfold A16
 go_enter Tryd.func100, Tryd.ntmps100
 go_wp2_with fail
 refine wn3 (c1 := (J1 .i64 16 (Q2 X))) (t1 := 76) (c2 := (J1 .i64 16 (Q2 Y))) (t2 := 76) (c3 := (J1 .i64 16 (fun _ => 0))) (t3 := 76) fun W0 bel k_t2 k_t3 k_t4 => ?_
 have lt_t2_0 := J5 k_t2
 have lt_t3_0 := J5 k_t3
 have lt_t4_0 := J5 k_t4
 go_wp2_with fail
 go_loopw [5] (fun ii wr => ∃ (k : Nat), k ≤ 16 ∧ ii = .int .i64 k ∧ Below w.heap.size w wr ∧ Blk wr w.heap.size (J1 .i64 16 (J6n k (fun j => Q2 X j + Q2 Y j) (Q2 X))) 76 ∧ Blk wr (w.heap.size + 1) (J1 .i64 16 (Q2 Y)) 76 ∧ Blk wr (w.heap.size + 2) (J1 .i64 16 (fun _ => 0)) 76)
  (fun ii _ => (16 - intOf ii).toNat)
 case atStart =>
  refine ⟨0, by omega, rfl, bel, ?_, k_t3, k_t4⟩
  rw [J3y]; exact k_t2
 case round =>
  obtain ⟨k, hk, rfl, bel, k_t2, k_t3, k_t4⟩ := hrel
  by_cases hexit : k = 16
  ·
   have _hx := hexit
   subst hexit
   rw [J52] at k_t2
   go_upto_region 5 with fail
   have lt_t2_1 := J5 k_t2
   have lt_t3_1 := J5 k_t3
   have lt_t4_1 := J5 k_t4
   have c_t := Q43 (fun j => Q2 X j + Q2 Y j) (Y3n X Y)
   rw [Z87 X Y HX.out HY.out] at c_t
   obtain ⟨R, hR⟩ := V2 ((X + Y) % PP)
   rw [← hR] at c_t
   have HR := Lib.hid hR
   clear hR
   refine Px 2 ?_
   refine XL ?_
   refine Xf ?_ (fun W hW => c_t W)
   refine Q3 fun W2 hE => ?_
   refine Lp ?_ (J2 k_t4 hE) (cells := J1 .i64 16 (Q2 R)) (h1 := (Y7 _ _ _))
   intro W3 hO h_
   refine J0 ?_
   replace k_t2 := ko k_t2 hE hO (by omega)
   replace k_t3 := ko k_t3 hE hO (by omega)
   replace k_t4 := h_
   replace bel := bwo bel hE hO bel.size (by omega)
   clear hO h_
   go_wp2
   refine bodyPost_ret (K6 rfl rfl k_t4 (by kernel_rfl) (by kernel_rfl)) rfl ⟨?_, bel⟩
   (rw [← HR.out] <;> rfl)
  ·
   have hk3 : k < 16 := by omega
   have hk3' : (k : Int) < 16 := by omega
   clear hexit
   have c0 := (Q8 k_t2 k).trans (J6 _ _ _ _ hk3)
   rw [J6o] at c0
   have c1 := (Q8 k_t3 k).trans (J6 _ _ _ _ hk3)
   have f0 := K5 k_t2
   have l0 := J0q X k
   have l1 := J0q Y k
   have w1 : IntKind.i64.wrap (Q2 X k + Q2 Y k) = Q2 X k + Q2 Y k := IntWalk.i64_in _ (by omega)
   go_wp2
   go_region
   go_wp2
   have hs := V1 k_t2 k (.int .i64 (Q2 X k + Q2 Y k))
   have hm := J4a .i64 16 k (fun j => Q2 X j + Q2 Y j) (Q2 X)
   rw [hm] at hs
   go_roundw
   case rel =>
    refine ⟨k + 1, by omega, ?_, ?_, V4 hs, ?_, ?_⟩
    ·
     (first | rfl | go_num)
    ·
     exact (Y8 bel (by omega) _ _).drew
    ·
     exact V4 (J9 k_t3 (by omega) _ _)
    ·
     exact V4 (J9 k_t4 (by omega) _ _)
   case measure => simp [intOf]; omega
end Go.Proofs.YtefpoollmbmkfaaDoor

namespace Go.Proofs.YtefpoollmbmkfaaDoor
set_option maxHeartbeats 4000000
set_option maxRecDepth 100000
open Go.RowKit

theorem Q4y (X : Nat) (hX : X ≤ PP) (w : World) :
  Calls Tryd.prog 102 #[A16 X] w fun e w' => Ret (A16 ((PP - X) % PP)) w w' e := by
 have HX := Lib.hid hX
 clear hX
 unfold A16
 go_enter Tryd.func102, Tryd.ntmps102
 go_wp2_with fail
 refine wn3 (c1 := (J1 .i64 16 (Q2 X))) (t1 := 76) (c2 := (J1 .i64 16 (fun _ => 0))) (t2 := 76) (c3 := (J1 .i64 16 (fun _ => 0))) (t3 := 76) fun W0 bel k_t1 k_t2 k_t3 => ?_
 have lt_t1_0 := J5 k_t1
 have lt_t2_0 := J5 k_t2
 have lt_t3_0 := J5 k_t3
 obtain ⟨D, hD⟩ := V2 (PP - X)
 have HD := Lib.hid hD
 clear hD
 go_wp2_with fail
 go_loopw [4, 5] (fun oo ii wr => ∃ (k : Nat), k ≤ 16 ∧ ii = .int .i64 k ∧ oo = .int .i64 (J27 PP X k : Int) ∧ Below w.heap.size w wr ∧ Blk wr w.heap.size (J1 .i64 16 (Q2 X)) 76 ∧ Blk wr (w.heap.size + 1) (J1 .i64 16 (fun _ => 0)) 76 ∧ Blk wr (w.heap.size + 2) (J1 .i64 16 (J6n k (Q2 D) (fun _ => 0))) 76)
  (fun oo ii _ => (16 - intOf ii).toNat)
 case atStart =>
  refine ⟨0, by omega, rfl, by rw [J8o]; rfl, bel, k_t1, k_t2, ?_⟩
  rw [J3y]; exact k_t3
 case round =>
  obtain ⟨k, hk, rfl, rfl, bel, k_t1, k_t2, k_t3⟩ := hrel
  by_cases hexit : k = 16
  ·
   have _hx := hexit
   subst hexit
   rw [J52] at k_t3
   have bD : D < Z0 := by rw [HD.out]; exact Nat.lt_of_le_of_lt (Nat.sub_le _ _) J7x
   have BD := Lib.hid bD
   clear bD
   go_upto_region 16 with fail
   have lt_t1_1 := J5 k_t1
   have lt_t2_1 := J5 k_t2
   have lt_t3_1 := J5 k_t3
   have c_t := Q43 (Q2 D) (Z3e D)
   rw [Q9o D BD.out] at c_t
   obtain ⟨R, hR⟩ := V2 (D % PP)
   rw [← hR] at c_t
   have HR := Lib.hid hR
   clear hR
   refine Px 2 ?_
   refine XL ?_
   refine Xf ?_ (fun W hW => c_t W)
   refine Q3 fun W2 hE => ?_
   refine Lp ?_ (J2 k_t2 hE) (cells := J1 .i64 16 (Q2 R)) (h1 := (Y7 _ _ _))
   intro W3 hO h_
   refine J0 ?_
   replace k_t1 := ko k_t1 hE hO (by omega)
   replace k_t2 := h_
   replace k_t3 := ko k_t3 hE hO (by omega)
   replace bel := bwo bel hE hO bel.size (by omega)
   clear hO h_
   go_wp2
   refine bodyPost_ret (K6 rfl rfl k_t2 (by kernel_rfl) (by kernel_rfl)) rfl ⟨?_, bel⟩
   (rw [← HD.out, ← HR.out] <;> rfl)
  ·
   have hk3 : k < 16 := by omega
   have hk3' : (k : Int) < 16 := by omega
   clear hexit
   have hsp := J62 PP X k HX.out
   rw [← HD.out, Z1a k hk3] at hsp
   have c0 := (Q8 k_t3 k).trans (J6 _ _ _ _ hk3)
   rw [J6o] at c0
   have c1 := (Q8 k_t1 k).trans (J6 _ _ _ _ hk3)
   have f0 := K5 k_t3
   have lb := J0q X k
   have bb := J70 PP X k
   have hset : ∀ v, v = Q2 D k → (J1 .i64 16 (J6n k (Q2 D) (fun _ => 0))).setIfInBounds k (.int .i64 v) = J1 .i64 16 (J6n (k + 1) (Q2 D) (fun _ => 0)) := fun v hv => by rw [hv]; exact J4a _ _ _ _ _
   have HS := Lib.hid hset
   clear hset
   obtain ⟨bo, hbo⟩ := V2 (J27 PP X k)
   rw [← hbo] at hsp bb ⊢
   clear hbo
   by_cases e0 : k = 0
   ·
    subst e0
    rw [if_pos rfl] at hsp
    obtain ⟨x, hx⟩ := V2 (Q2 X 0)
    obtain ⟨d, hdd⟩ := V2 (Q2 D 0)
    have lD := J0q D 0
    rw [← hx] at c1 hsp lb
    rw [← hdd] at hsp lD
    have HDD := Lib.hid hdd
    clear hx hdd
    rcases hsp with ⟨h1, h2⟩ | ⟨h1, h2, h3⟩
    ·
     have hneg : ¬ 65517 - x - (bo : Int) < 0 := by omega
     have H1 := Lib.hid h1
     have H2 := Lib.hid h2
     clear h1 h2 lD
     go_wp2
     have h1 := H1.out
     go_roundw
     case rel =>
      have hs := (V1 k_t3 0 (.int .i64 (65517 - x - (bo : Int))))
      rw [HS.out (65517 - x - (bo : Int)) (H2.out.trans HDD.out)] at hs
      refine ⟨0 + 1, by omega, ?_, ?_, ?_, ?_, ?_, hs⟩
      ·
       (first | rfl | go_num)
      ·
       rw [h1]; rfl
      ·
       exact (Y8 bel (by omega) _ _)
      ·
       exact (J9 k_t1 (by omega) _ _)
      ·
       exact (J9 k_t2 (by omega) _ _)
     case measure => simp [intOf] <;> omega
    ·
     have H1 := Lib.hid h1
     have H2 := Lib.hid h3
     clear h1 h3 lD
     go_wp2
     have h1 := H1.out
     go_roundw
     case rel =>
      have hs := (V1 (V1 k_t3 0 (.int .i64 (65517 - x - (bo : Int)))) 0 (.int .i64 (65517 - x - (bo : Int) + 65536)))
      simp only [Array.setIfInBounds_setIfInBounds] at hs
      rw [HS.out (65517 - x - (bo : Int) + 65536) (H2.out.trans HDD.out)] at hs
      refine ⟨0 + 1, by omega, ?_, ?_, ?_, ?_, ?_, hs⟩
      ·
       (first | rfl | go_num)
      ·
       rw [h1]; rfl
      ·
       exact (Y8 (Y8 bel (by omega) _ _) (by omega) _ _)
      ·
       exact (J9 (J9 k_t1 (by omega) _ _) (by omega) _ _)
      ·
       exact (J9 (J9 k_t2 (by omega) _ _) (by omega) _ _)
     case measure => simp [intOf] <;> omega
   ·
    rw [if_neg e0] at hsp
    by_cases e15 : k = 15
    ·
     subst e15
     rw [if_pos rfl] at hsp
     clear e0
     obtain ⟨x, hx⟩ := V2 (Q2 X 15)
     obtain ⟨d, hdd⟩ := V2 (Q2 D 15)
     have lD := J0q D 15
     rw [← hx] at c1 hsp lb
     rw [← hdd] at hsp lD
     have HDD := Lib.hid hdd
     clear hx hdd
     rcases hsp with ⟨h1, h2⟩ | ⟨h1, h2, h3⟩
     ·
      have hneg : ¬ 32767 - x - (bo : Int) < 0 := by omega
      have H1 := Lib.hid h1
      have H2 := Lib.hid h2
      clear h1 h2 lD
      go_wp2
      have h1 := H1.out
      go_roundw
      case rel =>
       have hs := (V1 k_t3 15 (.int .i64 (32767 - x - (bo : Int))))
       rw [HS.out (32767 - x - (bo : Int)) (H2.out.trans HDD.out)] at hs
       refine ⟨15 + 1, by omega, ?_, ?_, ?_, ?_, ?_, hs⟩
       ·
        (first | rfl | go_num)
       ·
        rw [h1]; rfl
       ·
        exact (Y8 bel (by omega) _ _)
       ·
        exact (J9 k_t1 (by omega) _ _)
       ·
        exact (J9 k_t2 (by omega) _ _)
      case measure => simp [intOf] <;> omega
     ·
      have H1 := Lib.hid h1
      have H2 := Lib.hid h3
      clear h1 h3 lD
      go_wp2
      have h1 := H1.out
      go_roundw
      case rel =>
       have hs := (V1 (V1 k_t3 15 (.int .i64 (32767 - x - (bo : Int)))) 15 (.int .i64 (32767 - x - (bo : Int) + 65536)))
       simp only [Array.setIfInBounds_setIfInBounds] at hs
       rw [HS.out (32767 - x - (bo : Int) + 65536) (H2.out.trans HDD.out)] at hs
       refine ⟨15 + 1, by omega, ?_, ?_, ?_, ?_, ?_, hs⟩
       ·
        (first | rfl | go_num)
       ·
        rw [h1]; rfl
       ·
        exact (Y8 (Y8 bel (by omega) _ _) (by omega) _ _)
       ·
        exact (J9 (J9 k_t1 (by omega) _ _) (by omega) _ _)
       ·
        exact (J9 (J9 k_t2 (by omega) _ _) (by omega) _ _)
      case measure => simp [intOf] <;> omega
    ·
     rw [if_neg e15] at hsp
     have p0 : ¬ (k : Int) = 0 := by omega
     have p15 : ¬ (k : Int) = 15 := by omega
     have p0b : ((k : Int) == 0) = false := by rw [beq_eq_false_iff_ne]; omega
     have p15b : ((k : Int) == 15) = false := by rw [beq_eq_false_iff_ne]; omega
     have g6 : (k == 0) = false := by rw [beq_eq_false_iff_ne]; omega
     have g7 : (k == 15) = false := by rw [beq_eq_false_iff_ne]; omega
     obtain ⟨x, hx⟩ := V2 (Q2 X k)
     obtain ⟨d, hdd⟩ := V2 (Q2 D k)
     have lD := J0q D k
     rw [← hx] at c1 hsp lb
     rw [← hdd] at hsp lD
     have HDD := Lib.hid hdd
     clear hx hdd
     rcases hsp with ⟨h1, h2⟩ | ⟨h1, h2, h3⟩
     ·
      have hneg : ¬ 65535 - x - (bo : Int) < 0 := by omega
      have H1 := Lib.hid h1
      have H2 := Lib.hid h2
      clear h1 h2 lD
      go_wp2
      have h1 := H1.out
      go_roundw
      case rel =>
       have hs := (V1 k_t3 k (.int .i64 (65535 - x - (bo : Int))))
       rw [HS.out (65535 - x - (bo : Int)) (H2.out.trans HDD.out)] at hs
       refine ⟨k + 1, by omega, ?_, ?_, ?_, ?_, ?_, hs⟩
       ·
        (first | rfl | go_num)
       ·
        rw [h1]; rfl
       ·
        exact (Y8 bel (by omega) _ _)
       ·
        exact (J9 k_t1 (by omega) _ _)
       ·
        exact (J9 k_t2 (by omega) _ _)
      case measure => simp [intOf] <;> omega
     ·
      have H1 := Lib.hid h1
      have H2 := Lib.hid h3
      clear h1 h3 lD
      go_wp2
      have h1 := H1.out
      go_roundw
      case rel =>
       have hs := (V1 (V1 k_t3 k (.int .i64 (65535 - x - (bo : Int)))) k (.int .i64 (65535 - x - (bo : Int) + 65536)))
       simp only [Array.setIfInBounds_setIfInBounds] at hs
       rw [HS.out (65535 - x - (bo : Int) + 65536) (H2.out.trans HDD.out)] at hs
       refine ⟨k + 1, by omega, ?_, ?_, ?_, ?_, ?_, hs⟩
       ·
        (first | rfl | go_num)
       ·
        rw [h1]; rfl
       ·
        exact (Y8 (Y8 bel (by omega) _ _) (by omega) _ _)
       ·
        exact (J9 (J9 k_t1 (by omega) _ _) (by omega) _ _)
       ·
        exact (J9 (J9 k_t2 (by omega) _ _) (by omega) _ _)
      case measure => simp [intOf] <;> omega
theorem Q88 (X Y : Nat) (hX : X < Z0) (hY : Y ≤ PP) (w : World) :
  Calls Tryd.prog 99 #[A16 X, A16 Y] w fun e w' => Ret (A16 ((X + (PP - Y) % PP) % PP)) w w' e := by
 have HX := Lib.hid hX
 have HY := Lib.hid hY
 clear hX hY
 unfold A16
 go_enter Tryd.func99, Tryd.ntmps99
 go_upto_region 1 with fail
 refine wn3 (c1 := (J1 .i64 16 (Q2 X))) (t1 := 76) (c2 := (J1 .i64 16 (Q2 Y))) (t2 := 76) (c3 := (J1 .i64 16 (fun _ => 0))) (t3 := 76) fun W0 bel k_t2 k_t3 k_t4 => ?_
 have lt_t2_0 := J5 k_t2
 have lt_t3_0 := J5 k_t3
 have lt_t4_0 := J5 k_t4
 have c_n := Q4y Y HY.out
 obtain ⟨M, hM⟩ := V2 ((PP - Y) % PP)
 rw [← hM] at c_n
 have HM := Lib.hid hM
 have bM := J0v hM
 have BM := Lib.hid bM
 clear hM bM
 have c_a := J9l X M HX.out BM.out
 obtain ⟨S, hS⟩ := V2 ((X + M) % PP)
 rw [← hS] at c_a
 have HSS := Lib.hid hS
 clear hS
 refine Rx 4 ?_
 refine XL ?_
 refine XL ?_
 refine Xf ?_ (fun W hW => c_n W)
 refine Xf ?_ (fun W hW => c_a W)
 refine Q3 fun W1 hE => ?_
 refine Lp ?_ (J2 k_t4 hE) (cells := J1 .i64 16 (Q2 S)) (h1 := (Y7 _ _ _))
 intro W2 hO h_
 refine LN ?_
 replace k_t2 := ko k_t2 hE hO (by omega)
 replace k_t3 := ko k_t3 hE hO (by omega)
 replace k_t4 := h_
 replace bel := bwo bel hE hO bel.size (by omega)
 clear hO h_
 go_wp2
 refine bodyPost_ret (K6 rfl rfl k_t4 (by kernel_rfl) (by kernel_rfl)) rfl ⟨?_, bel⟩
 (rw [← HM.out, ← HSS.out] <;> rfl)
end Go.Proofs.YtefpoollmbmkfaaDoor

namespace Go.Proofs.YtefpoollmbmkfaaDoor
set_option maxHeartbeats 4000000
set_option maxRecDepth 100000
open Go.RowKit

theorem Q4z (f : Nat → Int) (m : Nat) : ∀ n, J0w f (m + n) = J0w f m + 2 ^ (16 * m) * J0w (fun j => f (m + j)) n
  | 0 => by simp [J0w]
  | n + 1 => by
    show J0w f (m + n) + (f (m + n)).toNat * 2 ^ (16 * (m + n)) = J0w f m + 2 ^ (16 * m) * (J0w (fun j => f (m + j)) n + (f (m + n)).toNat * 2 ^ (16 * n))
    rw [Q4z f m n, Nat.mul_add, Nat.pow_add, Nat.mul_add (2 ^ (16 * m)), Nat.mul_left_comm (2 ^ (16 * m))]; omega
theorem Q50 (f : Nat → Int) (hf : ∀ j, 0 ≤ f j) (c : Nat) : ∀ n, J0w (fun j => (c : Int) * f j) n = c * J0w f n
  | 0 => rfl
  | n + 1 => by
    show J0w _ n + ((c : Int) * f n).toNat * _ = c * (J0w f n + (f n).toNat * _)
    obtain ⟨x, hx⟩ := Int.eq_ofNat_of_zero_le (hf n)
    rw [Q50 f hf c n, Nat.mul_add, hx, ← Int.natCast_mul, Int.toNat_natCast, Int.toNat_natCast, Nat.mul_assoc]
def J9m (F : Nat → Int) : Nat → Int := fun j => F j + 38 * F (j + 16)
theorem Z1b (F : Nat → Int) (h : ∀ j, 0 ≤ F j) : J0w (J9m F) 16 % PP = J0w F 32 % PP := by
  have e1 : J0w (J9m F) 16 = J0w F 16 + 38 * J0w (fun j => F (16 + j)) 16 := by
    have := Q4x F (fun j => (38 : Nat) * F (16 + j)) h (fun j => Int.mul_nonneg (by omega) (h _)) 16
    rw [Q50 (fun j => F (16 + j)) (fun j => h (16 + j)) 38 16] at this
    rw [← this]
    apply Q14
    intro j _
    unfold J9m
    rw [Nat.add_comm j 16]; rfl
  have e2 := Q4z F 16 16
  rw [show 16 + 16 = 32 by decide, show (2 : Nat) ^ (16 * 16) = Z0 by decide, show Z0 = 2 * PP + 38 from PP_two.symm] at e2
  rw [e1, e2, Nat.add_mul, Nat.mul_comm 2 PP, Nat.mul_assoc PP, ← Nat.add_assoc, Nat.add_right_comm, Nat.add_mul_mod_self_left]
theorem Z5o (F : Nat → Int) (h : ∀ j, 0 ≤ F j) (X Y i k : Nat) (hi : i < 16) (hk : k < 16) (B : Nat) (hB : ∀ j, F j ≤ (B : Int)) (hs : J0w F 32 = X % 2 ^ (16 * i) * Y + (Q2 X i).toNat * 2 ^ (16 * i) * (Y % 2 ^ (16 * k))) :
    (∀ j, 0 ≤ upd F (i + k) (F (i + k) + Q2 X i * Q2 Y k) j) ∧ (∀ j, upd F (i + k) (F (i + k) + Q2 X i * Q2 Y k) j ≤ ((B + 4294836225 : Nat) : Int)) ∧
    J0w (upd F (i + k) (F (i + k) + Q2 X i * Q2 Y k)) 32 = X % 2 ^ (16 * i) * Y + (Q2 X i).toNat * 2 ^ (16 * i) * (Y % 2 ^ (16 * (k + 1))) := by
  have r1 := J0q X i
  have r2 := J0q Y k
  have h0 := h (i + k)
  obtain ⟨x, hx⟩ := Int.eq_ofNat_of_zero_le r1.1
  have hy : Q2 Y k = ((Y / 2 ^ (16 * k) % 65536 : Nat) : Int) := rfl
  have hsu := Q51 F (i + k) (F (i + k) + Q2 X i * Q2 Y k) 32 (by omega)
  obtain ⟨f, hf⟩ := Int.eq_ofNat_of_zero_le h0
  have hyb : Y / 2 ^ (16 * k) % 65536 < 65536 := Nat.mod_lt _ (by decide)
  rw [J4n Y k]
  rw [hx] at hs r1 ⊢ hsu
  rw [hy] at r2 ⊢ hsu
  generalize Y / 2 ^ (16 * k) % 65536 = y at *
  have hxy : x * y ≤ 65535 * 65535 := Nat.mul_le_mul (by omega) (by omega)
  have exy : (x : Int) * (y : Int) = ((x * y : Nat) : Int) := by rw [Int.natCast_mul]
  rw [exy] at hsu ⊢
  have hBk := hB (i + k)
  rw [hf] at hsu ⊢
  refine ⟨fun j => ?_, fun j => ?_, ?_⟩
  · unfold upd; split
    · omega
    · exact h j
  · unfold upd; split
    · omega
    · have := hB j; omega
  · rw [← Int.natCast_add] at hsu ⊢
    rw [hs] at hsu
    simp only [Int.toNat_natCast] at hsu ⊢
    rw [Nat.add_mul] at hsu
    rw [Nat.mul_add (x * 2 ^ (16 * i)), show x * 2 ^ (16 * i) * (y * 2 ^ (16 * k)) = x * y * 2 ^ (16 * (i + k)) by rw [show 16 * (i + k) = 16 * i + 16 * k by omega, Nat.pow_add, Nat.mul_mul_mul_comm]]
    omega

theorem J02 (X Y : Nat) (hX : X < Z0) (hY : Y < Z0) (w : World) :
  Calls Tryd.prog 89 #[A16 X, A16 Y] w fun e w' => Ret (A16 (X * Y % PP)) w w' e := by
 have HX := Lib.hid hX
 have HY := Lib.hid hY
 clear hX hY
 unfold A16
 go_enter Tryd.func89, Tryd.ntmps89
 go_wp2_with fail
 refine wn4 (c1 := (J1 .i64 16 (Q2 X))) (t1 := 76) (c2 := (J1 .i64 16 (Q2 Y))) (t2 := 76) (c3 := (J1 .i64 16 (fun _ => 0))) (t3 := 76) (c5 := (J1 .i64 32 (fun _ => 0))) (t5 := 147) fun W0 bel k_t2 k_t3 k_t4 k_t5 => ?_
 have lt_t2_0 := J5 k_t2
 have lt_t3_0 := J5 k_t3
 have lt_t4_0 := J5 k_t4
 have lt_t5_0 := J5 k_t5
 go_wp2_with fail
 go_loopw [6] (fun ii wr => ∃ (i : Nat) (F : Nat → Int), i ≤ 16 ∧ ii = .int .i64 i ∧ Hid ((∀ j, 0 ≤ F j) ∧ (∀ j, F j ≤ ((16 * i * 4294836225 : Nat) : Int)) ∧ J0w F 32 = X % 2 ^ (16 * i) * Y) ∧ Below w.heap.size w wr ∧ Blk wr w.heap.size (J1 .i64 16 (Q2 X)) 76 ∧ Blk wr (w.heap.size + 1) (J1 .i64 16 (Q2 Y)) 76 ∧ Blk wr (w.heap.size + 2) (J1 .i64 16 (fun _ => 0)) 76 ∧ Blk wr (w.heap.size + 3) (J1 .i64 32 F) 147)
  (fun ii _ => (16 - intOf ii).toNat)
 case atStart =>
  refine ⟨0, fun _ => 0, by omega, rfl, Lib.hid ⟨fun _ => Int.le_refl _, fun _ => by simp, by rw [Q6o, Nat.mul_zero, Nat.pow_zero, Nat.mod_one, Nat.zero_mul]⟩, bel, k_t2, k_t3, k_t4, k_t5⟩
 case round =>
  obtain ⟨i, F, hi, rfl, HF, bel, k_t2, k_t3, k_t4, k_t5⟩ := hrel
  by_cases hexit : i = 16
  ·
   have _hx := hexit
   subst hexit
   go_upto_region 9 with fail
   have lt_t2_1 := J5 k_t2
   have lt_t3_1 := J5 k_t3
   have lt_t4_1 := J5 k_t4
   have lt_t5_1 := J5 k_t5
   refine Px1 0 8 (z := J1 .i64 16 (fun _ => 0)) (t := 76) ?_
   refine XN ?_
   intro V1r W2 n_t8_2 hE k_t8
   have sz_2 := bel.size
   skip
   refine J0 ?_
   have hF : Below w.heap.size w W2 ∧ Blk W2 w.heap.size (J1 .i64 16 (Q2 X)) 76 ∧ Blk W2 (w.heap.size + 1) (J1 .i64 16 (Q2 Y)) 76 ∧ Blk W2 (w.heap.size + 2) (J1 .i64 16 (fun _ => 0)) 76 ∧ Blk W2 (w.heap.size + 3) (J1 .i64 32 F) 147 ∧ Blk W2 V1r (J1 .i64 16 (fun _ => 0)) 76 := ⟨(Z5 bel hE bel.size), (J2 k_t2 hE), (J2 k_t3 hE), (J2 k_t4 hE), (J2 k_t5 hE), k_t8⟩
   clear bel k_t2 k_t3 k_t4 k_t5 k_t8
   obtain ⟨bel, k_t2, k_t3, k_t4, k_t5, k_t8⟩ := hF
   have lt_t8_2 := J5 k_t8
   go_wp2_with fail
   go_loopw [9] (fun ii wr => ∃ (k : Nat), k ≤ 16 ∧ ii = .int .i64 k ∧ Below w.heap.size w wr ∧ Blk wr w.heap.size (J1 .i64 16 (Q2 X)) 76 ∧ Blk wr (w.heap.size + 1) (J1 .i64 16 (Q2 Y)) 76 ∧ Blk wr (w.heap.size + 2) (J1 .i64 16 (fun _ => 0)) 76 ∧ Blk wr (w.heap.size + 3) (J1 .i64 32 F) 147 ∧ Blk wr V1r (J1 .i64 16 (J6n k (J9m F) (fun _ => 0))) 76)
    (fun ii _ => (16 - intOf ii).toNat)
   case atStart =>
    refine ⟨0, by omega, rfl, bel, k_t2, k_t3, k_t4, k_t5, ?_⟩
    rw [J3y]; exact k_t8
   case round =>
    obtain ⟨k, hk, rfl, bel, k_t2, k_t3, k_t4, k_t5, k_t8⟩ := hrel
    by_cases hexit : k = 16
    ·
     have _hx := hexit
     subst hexit
     rw [J52] at k_t8
     go_upto_region 14 with fail
     have lt_t2_3 := J5 k_t2
     have lt_t3_3 := J5 k_t3
     have lt_t4_3 := J5 k_t4
     have lt_t5_3 := J5 k_t5
     have lt_t8_3 := J5 k_t8
     have okfold : okF (J9m F) := fun j => by have u := HF.out.1 j; have v := HF.out.2.1 j; have u2 := HF.out.1 (j + 16); have v2 := HF.out.2.1 (j + 16); unfold J9m; omega
     have c_t := Q43 (J9m F) okfold
     rw [Z1b F HF.out.1, HF.out.2.2, show X % 2 ^ (16 * 16) = X by rw [show (2 : Nat) ^ (16 * 16) = Z0 by decide]; exact Nat.mod_eq_of_lt HX.out] at c_t
     obtain ⟨R, hR⟩ := V2 (X * Y % PP)
     rw [← hR] at c_t
     have HR := Lib.hid hR
     clear hR
     refine Px 2 ?_
     refine XL ?_
     refine Xf ?_ (fun W hW => c_t W)
     refine Q3 fun W4 hE => ?_
     refine Lp ?_ (J2 k_t4 hE) (cells := J1 .i64 16 (Q2 R)) (h1 := (Y7 _ _ _))
     intro W5 hO h_
     refine J0 ?_
     replace k_t2 := ko k_t2 hE hO (by omega)
     replace k_t3 := ko k_t3 hE hO (by omega)
     replace k_t4 := h_
     replace k_t5 := ko k_t5 hE hO (by omega)
     replace k_t8 := ko k_t8 hE hO (by omega)
     replace bel := bwo bel hE hO bel.size (by omega)
     clear hO h_
     go_wp2
     refine bodyPost_ret (K6 rfl rfl k_t4 (by kernel_rfl) (by kernel_rfl)) rfl ⟨?_, bel⟩
     (rw [← HR.out] <;> rfl)
    ·
     have hk3 : k < 16 := by omega
     have hk3' : (k : Int) < 16 := by omega
     clear hexit
     have c0 := (Q8 k_t5 k).trans (J6 _ _ _ _ (by omega))
     have c1 := (Q8 k_t5 (k + 16)).trans (J6 _ _ _ _ (by omega))
     have c2 := (Q8 k_t8 k).trans (J6 _ _ _ _ hk3)
     rw [J6o] at c2
     have f0 := K5 k_t8
     obtain ⟨u0, u1⟩ := And.intro (HF.out.1 k) (HF.out.2.1 k)
     obtain ⟨v0, v1⟩ := And.intro (HF.out.1 (k + 16)) (HF.out.2.1 (k + 16))
     have w0 : IntKind.i64.wrap ((k : Int) + 16) = ((k + 16 : Nat) : Int) := by rw [IntWalk.i64_in _ (by omega)]; omega
     have w1 : IntKind.i64.wrap (38 * F (k + 16)) = 38 * F (k + 16) := IntWalk.i64_in _ (by omega)
     have w2 : IntKind.i64.wrap (F k + 38 * F (k + 16)) = F k + 38 * F (k + 16) := IntWalk.i64_in _ (by omega)
     clear u0 u1 v0 v1 w0
     have h32 : (k : Int) < 32 := by omega
     have h33 : (k : Int) + 16 < 32 := by omega
     go_wp2
     go_region
     go_wp2
     have hs := V1 k_t8 k (.int .i64 (J9m F k))
     rw [J4a] at hs
     go_roundw
     case rel =>
      refine ⟨k + 1, by omega, ?_, (Y8 bel (by omega) _ _).drew, V4 (J9 k_t2 (by omega) _ _), V4 (J9 k_t3 (by omega) _ _), V4 (J9 k_t4 (by omega) _ _), V4 (J9 k_t5 (by omega) _ _), ?_⟩
      ·
       (first | rfl | go_num)
      ·
       exact V4 hs
     case measure => simp [intOf]; omega
  ·
   have hi3 : i < 16 := by omega
   have hi3' : (i : Int) < 16 := by omega
   clear hexit
   have lt_t2_1 := J5 k_t2
   have lt_t3_1 := J5 k_t3
   have lt_t4_1 := J5 k_t4
   have lt_t5_1 := J5 k_t5
   go_wp2_with fail
   go_loopw [7] (fun kk wr => ∃ (k : Nat) (G : Nat → Int), k ≤ 16 ∧ kk = .int .i64 k ∧ Hid ((∀ j, 0 ≤ G j) ∧ (∀ j, G j ≤ (((16 * i + k) * 4294836225 : Nat) : Int)) ∧ J0w G 32 = X % 2 ^ (16 * i) * Y + (Q2 X i).toNat * 2 ^ (16 * i) * (Y % 2 ^ (16 * k))) ∧ Below w.heap.size w wr ∧ Blk wr w.heap.size (J1 .i64 16 (Q2 X)) 76 ∧ Blk wr (w.heap.size + 1) (J1 .i64 16 (Q2 Y)) 76 ∧ Blk wr (w.heap.size + 2) (J1 .i64 16 (fun _ => 0)) 76 ∧ Blk wr (w.heap.size + 3) (J1 .i64 32 G) 147)
    (fun kk _ => (16 - intOf kk).toNat)
   case atStart =>
    refine ⟨0, F, by omega, rfl, Lib.hid ⟨HF.out.1, HF.out.2.1, by rw [HF.out.2.2, Nat.mul_zero 16, Nat.pow_zero, Nat.mod_one, Nat.mul_zero, Nat.add_zero]⟩, bel, k_t2, k_t3, k_t4, k_t5⟩
   case round =>
    obtain ⟨k, G, hk, rfl, HG, bel, k_t2, k_t3, k_t4, k_t5⟩ := hrel
    by_cases hexit : k = 16
    ·
     have _hx := hexit
     subst hexit
     go_wp2_with fail
     go_roundw
     case rel =>
      refine ⟨i + 1, G, by omega, by go_num, Lib.hid ⟨HG.out.1, ?_, ?_⟩, bel, k_t2, k_t3, k_t4, k_t5⟩
      ·
       rw [show 16 * (i + 1) * 4294836225 = (16 * i + 16) * 4294836225 by omega]; exact HG.out.2.1
      ·
       have h := HG.out.2.2
       rw [show Y % 2 ^ (16 * 16) = Y by rw [show (2 : Nat) ^ (16 * 16) = Z0 by decide]; exact Nat.mod_eq_of_lt HY.out] at h
       rw [h, J4n X i, Nat.add_mul]; rfl
     case measure => simp [intOf]; omega
    ·
     have hk3 : k < 16 := by omega
     have hk3' : (k : Int) < 16 := by omega
     clear hexit
     obtain ⟨m, hm⟩ := V2 (i + k)
     have hcs := Z5o G HG.out.1 X Y i k hi3 hk3 _ HG.out.2.1 HG.out.2.2
     have hG0 := HG.out.1 m
     have hG1 := HG.out.2.1 m
     have lx := J0q X i
     have ly := J0q Y k
     have hp : 0 ≤ Q2 X i * Q2 Y k ∧ Q2 X i * Q2 Y k ≤ 4294836225 := ⟨Int.mul_nonneg lx.1 ly.1, by have := Int.mul_le_mul lx.2 ly.2 ly.1 (by omega); omega⟩
     rw [← hm] at hcs
     have hm32 : m < 32 := by omega
     have hm32' : (m : Int) < 32 := by omega
     have w0 : IntKind.i64.wrap ((i : Int) + (k : Int)) = (m : Int) := by rw [IntWalk.i64_in _ (by omega)]; omega
     have c0 := (Q8 k_t5 m).trans (J6 _ _ _ _ hm32)
     have c1 := (Q8 k_t2 i).trans (J6 _ _ _ _ hi3)
     have c2 := (Q8 k_t3 k).trans (J6 _ _ _ _ hk3)
     have f0 := K5 k_t5
     obtain ⟨p, hpe⟩ := V2 (Q2 X i * Q2 Y k)
     rw [← hpe] at hcs hp
     have w1 : IntKind.i64.wrap (Q2 X i * Q2 Y k) = p := by rw [← hpe]; exact IntWalk.i64_in _ (by omega)
     have w2 : IntKind.i64.wrap (G m + p) = G m + p := IntWalk.i64_in _ (by omega)
     have HC := Lib.hid hcs
     clear hcs hpe lx ly hG0 hG1 hp hm
     go_wp2
     go_region
     go_wp2
     have hs := V1 k_t5 m (.int .i64 (G m + p))
     rw [J04] at hs
     go_roundw
     case rel =>
      refine ⟨k + 1, _, by omega, ?_, ?_, (Y8 bel (by omega) _ _).drew, V4 (J9 k_t2 (by omega) _ _), V4 (J9 k_t3 (by omega) _ _), V4 (J9 k_t4 (by omega) _ _), V4 hs⟩
      ·
       (first | rfl | go_num)
      ·
       refine Lib.hid ⟨HC.out.1, ?_, HC.out.2.2⟩
       rw [show (16 * i + (k + 1)) * 4294836225 = (16 * i + k) * 4294836225 + 4294836225 by omega]; exact HC.out.2.1
     case measure => simp [intOf]; omega
end Go.Proofs.YtefpoollmbmkfaaDoor
