/- Contracts and plain laws that superChecks_holds rests on. Conditions: the variables' cells hold the numbers of the program's text. -/
import Derived.Test.YtejkmhgkkibafaaGreatDoorGc
import Derived.Test.YtejkmhgkkibafaaGreatDoorJ6
import Derived.Test.YtejkmhgkkibafaaGreatDoorJ3
import Derived.Test.YtejkmhgkkibafaaGreatDoorJ8
import Derived.Test.YtejkmhgkkibafaaGreatDoorGa
import Derived.Test.YtejkmhgkkibafaaGreatDoorGb
import Derived.Test.YtejkmhgkkibafaaGreatDoorS8Ea
open Go.RowKit
set_option maxRecDepth 100000
set_option linter.unusedSimpArgs false
set_option linter.unusedVariables false
namespace Go.Proofs.YtejkmhgkkibafaaGreatDoor.S8
section
set_option maxHeartbeats 4000000

theorem Z6a (f : Nat → Int) (hf : okF f) (w : World) :
  Calls Tryz.prog 174 #[.agg (J0 .i64 16 f)] w fun e w' => K7 (.agg (J0 .i64 16 (Q6 (cr (cr (J03 f 16)))))) w w' e := by
 go_enter Tryz.func174, Tryz.ntmps174
 go_wp2_with fail
 refine wn2 (c1 := (J0 .i64 16 (f))) (t1 := 124) (c2 := (J0 .i64 16 (fun _ => 0))) (t2 := 124) fun W0 J Y0 D => ?_
 have U := Q2 Y0
 have T := Q2 D
 have HF := Lib.hid hf
 clear hf
 go_wp2_with fail
 go_loopw [3] (fun tt wr => ∃ (t : Nat) (fr : Nat → Int), t ≤ 3 ∧ tt = .int .i64 t ∧ fr = Q8j f t ∧ Below w.heap.size w wr ∧ Blk wr w.heap.size (J0 .i64 16 fr) 124 ∧ Blk wr (w.heap.size + 1) (J0 .i64 16 (fun _ => 0)) 124)
  (fun tt _ => (3 - intOf tt).toNat)
 case atStart =>
  exact ⟨0, f, by omega, rfl, rfl, J, Y0, D⟩
 case round =>
  obtain ⟨t, fr, ht, rfl, R, J, Y0, D⟩ := hrel
  have hfr' := Z0a f HF.out t
  rw [← R] at hfr'
  have HR := Lib.hid hfr'
  have HE := Lib.hid R
  clear hfr' R
  by_cases G : t = 3
  ·
   have V := G
   subst G
   go_upto_region 12 with fail
   have M := Q2 Y0
   have N := Q2 D
   refine Px 1 ?_
   refine XL ?_
   refine V7 fun W2 hE => ?_
   refine Lp ?_ (J2 D hE) (cells := J0 .i64 16 (fr)) (h1 := (Z9 _ _ _))
   intro W3 hO h_
   refine J9 ?_
   replace Y0 := ko Y0 hE hO (by omega)
   replace D := h_
   replace J := bwo J hE hO J.size (by omega)
   clear hO h_
   go_wp2
   refine bodyPost_ret (Z6 rfl rfl D (by kernel_rfl) (by kernel_rfl)) rfl ⟨?_, J⟩
   rw [HE.out, Y9a f HF.out]
  have X : t < 3 := by omega
  clear G
  have M := Q2 Y0
  have N := Q2 D
  obtain ⟨wo, rfl⟩ : ∃ wo : World, wo = wr := ⟨_, rfl⟩
  go_wp2_with fail
  go_loopw [4, 5] (fun oo ii wr => ∃ (k : Nat), k ≤ 16 ∧ ii = .int .i64 k ∧ oo = .int .i64 (ovr fr k : Int) ∧ Below w.heap.size w wr ∧ Blk wr w.heap.size (J0 .i64 16 (J4h k (Q6 (J03 fr 16)) fr)) 124 ∧ Blk wr (w.heap.size + 1) (J0 .i64 16 (fun _ => 0)) 124)
   (fun oo ii _ => (16 - intOf ii).toNat)
  case atStart =>
   rw [← J2i (Q6 (J03 fr 16)) fr] at Y0
   refine ⟨0, by omega, rfl, ?_, J, Y0, D⟩
   rw [Q6i]; rfl
  case round =>
   obtain ⟨k, hk, rfl, rfl, J, Y0, D⟩ := hrel
   by_cases G : k = 16
   ·
    have V := G
    subst G
    rw [J3c] at Y0
    have c0 := (J7 Y0 0).trans (J3 _ _ _ _ (by omega))
    have f0 := V2 Y0
    have b1 := X6 (J03 fr 16) 0
    have b2 := Q1o fr 1125899906842624 (fun j => (HR.out j).2) 16
    go_wp2
    have hs := Z8 Y0 0 (.int .i64 (Q6 (J03 fr 16) 0 + 38 * (ovr fr 16 : Int)))
    rw [V4] at hs
    go_roundw
    case rel =>
     exact ⟨t + 1, nxt fr, by omega, by go_num, by rw [HE.out]; rfl, Z4 J (by omega) _ _, hs, J6 D (by omega) _ _⟩
    case measure => simp [intOf]; omega
   have S : k < 16 := by omega
   have hk3' : (k : Int) < 16 := by omega
   clear G
   obtain ⟨s1, s2⟩ := Z2n fr HR.out k S
   have c0 := (J7 Y0 k).trans (J3 _ _ _ _ S)
   rw [J4i] at c0
   have f0 := V2 Y0
   obtain ⟨l0, l1⟩ := HR.out k
   have l2 := Q1o fr 1125899906842624 (fun j => (HR.out j).2) k
   go_wp2
   have hs := Z8 Y0 k (.int .i64 (Q6 (J03 fr 16) k))
   rw [J2p] at hs
   go_roundw
   case rel => exact ⟨k + 1, by omega, by go_num, rfl, Z4 J (by omega) _ _, hs, J6 D (by omega) _ _⟩
   case measure => simp [intOf]; omega
end

section
set_option maxHeartbeats 4000000

theorem J45 (X Y k : Nat) (h : Y ≤ X) :
    (J13 X Y (k + 1) = 0 ∧ Q6 X k - Q6 Y k - (J13 X Y k : Int) = Q6 (X - Y) k) ∨
     (J13 X Y (k + 1) = 1 ∧ Q6 X k - Q6 Y k - (J13 X Y k : Int) < 0 ∧ Q6 X k - Q6 Y k - (J13 X Y k : Int) + 65536 = Q6 (X - Y) k) := by
  have r1 := X6 X k
  have r2 := X6 Y k
  have r3 := J4o X Y k
  have r4 := X6 (X - Y) k
  have r5 := J4o X Y (k + 1)
  have hs := Q1k X Y k h
  rcases Nat.lt_or_ge (J13 X Y (k + 1)) 1 with h0 | h1
  · rw [show J13 X Y (k + 1) = 0 by omega] at hs ⊢; exact .inl ⟨rfl, by omega⟩
  rw [show J13 X Y (k + 1) = 1 by omega] at hs ⊢; exact .inr ⟨rfl, by omega, by omega⟩
theorem Q8z : ∀ k, k < 16 → Q6 PP k = if k = 0 then 65517 else if k = 15 then 32767 else 65535 := by
  intro k hk
  have : k = 0 ∨ k = 1 ∨ k = 2 ∨ k = 3 ∨ k = 4 ∨ k = 5 ∨ k = 6 ∨ k = 7 ∨ k = 8 ∨ k = 9 ∨ k = 10 ∨ k = 11 ∨ k = 12 ∨ k = 13 ∨ k = 14 ∨ k = 15 := by omega
  rcases this with rfl | rfl | rfl | rfl | rfl | rfl | rfl | rfl | rfl | rfl | rfl | rfl | rfl | rfl | rfl | rfl <;> decide +kernel
theorem Q2h (N k : Nat) (hk : k < 16) : Q6 (N + Q5) k = Q6 N k := by
  unfold Q6
  obtain ⟨d, hd⟩ : ∃ d, Q5 = 2 ^ (16 * k) * (65536 * 2 ^ d) := ⟨16 * (15 - k), by
    rw [show (65536 : Nat) = 2 ^ 16 by decide, ← Nat.pow_add, ← Nat.pow_add, show 16 * k + (16 + 16 * (15 - k)) = 256 by omega]; decide⟩
  rw [hd, Nat.add_mul_div_left _ _ (Nat.two_pow_pos _), Nat.add_mul_mod_self_left]
theorem Z0z (N : Nat) (hN : N < Q5) : J13 (N + Q5) PP 16 = if N < PP then 1 else 0 := by
  unfold J13
  rw [show (2 : Nat) ^ (16 * 16) = Q5 by decide, Nat.add_mod_right, Nat.mod_eq_of_lt hN, Nat.mod_eq_of_lt J5x]
theorem Y0s (N : Nat) (hN : N < Q5) (h : ¬ N < PP) : J0 .i64 16 (Q6 (N + Q5 - PP)) = J0 .i64 16 (Q6 (N - PP)) := by
  apply K5
  intro j hj
  rw [show N + Q5 - PP = (N - PP) + Q5 by omega, Q2h _ _ hj]
theorem Z6b (V : Nat) : cr V % PP = V % PP := by
  unfold cr
  have hd := Nat.div_add_mod V Q5
  conv => rhs; rw [← hd]
  rw [show Q5 = 2 * PP + 38 from PP_two.symm, show (2 * PP + 38) * (V / (2 * PP + 38)) + V % (2 * PP + 38) = V % (2 * PP + 38) + 38 * (V / (2 * PP + 38)) + PP * (2 * (V / (2 * PP + 38))) by rw [Nat.add_mul, Nat.mul_left_comm PP, Nat.mul_assoc]; omega, Nat.add_mul_mod_self_left]

theorem Q12 (f : Nat → Int) (hf : okF f) (w : World) :
  Calls Tryz.prog 155 #[.agg (J0 .i64 16 f)] w fun e w' => K7 (A16 (J03 f 16 % PP)) w w' e := by
 go_enter Tryz.func155, Tryz.ntmps155
 go_upto_region 1 with fail
 refine wn2 (c1 := (J0 .i64 16 (f))) (t1 := 124) (c2 := (J0 .i64 16 (fun _ => 0))) (t2 := 124) fun W0 R Y0 J => ?_
 have Δ := Q2 Y0
 have Γ := Q2 J
 have τ := Z6a f hf
 obtain ⟨W, hW⟩ := V3 (cr (cr (J03 f 16)))
 rw [← hW] at τ
 have bW : W < Q5 := by rw [hW]; exact Q6k _ (Q4f f hf 16)
 have HW := Lib.hid hW
 have BW := Lib.hid bW
 clear hW bW
 refine Px 2 ?_
 refine XL ?_
 refine Xf ?_ (fun W hW => τ W)
 refine V7 fun W1 hE => ?_
 refine LS ?_ (J2 Y0 hE) (g := w.heap.size) (cells := J0 .i64 16 (Q6 W)) (h1 := (Z9 _ _ _))
 refine J9 ?_
 have hF : Below w.heap.size w (W1.setRow w.heap.size (J0 .i64 16 (Q6 W))) ∧ Blk (W1.setRow w.heap.size (J0 .i64 16 (Q6 W))) w.heap.size (J0 .i64 16 (Q6 W)) 124 ∧ Blk (W1.setRow w.heap.size (J0 .i64 16 (Q6 W))) (w.heap.size + 1) (J0 .i64 16 (fun _ => 0)) 124 := ⟨(Z7 (Y4 R hE R.size) (by omega) _), (Y8 (J2 Y0 hE) (J0 .i64 16 (Q6 W))), (Q0 (J2 J hE) (by omega) _)⟩
 generalize (W1.setRow w.heap.size (J0 .i64 16 (Q6 W))) = W2 at hF ⊢
 clear R Y0 J
 obtain ⟨R, Y0, J⟩ := hF
 have ω := Q2 Y0
 have ψ := Q2 J
 go_wp2_with fail
 go_loopw [3] (fun tt wr => ∃ (t N : Nat), t ≤ 3 ∧ tt = .int .i64 t ∧ N + t * PP = W ∧ Below w.heap.size w wr ∧ Blk wr w.heap.size (J0 .i64 16 (Q6 N)) 124 ∧ Blk wr (w.heap.size + 1) (J0 .i64 16 (fun _ => 0)) 124)
  (fun tt _ => (3 - intOf tt).toNat)
 case atStart =>
  exact ⟨0, W, by omega, rfl, by omega, R, Y0, J⟩
 case round =>
  obtain ⟨t, N, ht, rfl, hN, R, Y0, J⟩ := hrel
  have bN : N < Q5 := by have := BW.out; omega
  have HN := Lib.hid hN
  have BN := Lib.hid bN
  clear hN bN
  obtain ⟨M, hM⟩ := V3 (N + Q5)
  obtain ⟨D, hD⟩ := V3 (N + Q5 - PP)
  have HM := Lib.hid hM
  have ξ := Lib.hid hD
  clear hM hD
  by_cases U : t = 3
  ·
   have σ := U
   exfalso
   have := HN.out
   have := BW.out
   subst U
   unfold Q5 PP at *; omega
  have Θ : t < 3 := by omega
  clear U
  by_cases δ : N < PP
  ·
   have HL := Lib.hid δ
   clear δ
   go_upto_region 5 with fail
   have ε := Q2 Y0
   have κ := Q2 J
   refine Px1 1 4 (z := J0 .i64 16 (fun _ => 0)) (t := 124) ?_
   refine XL ?_
   refine XN ?_
   intro V W4 ν hE G
   have χ := R.size
   refine Lp ?_ G (cells := J0 .i64 16 (Q6 N)) (h1 := (Z9 _ _ _))
   intro W5 hO h_
   refine J9 ?_
   replace Y0 := ko Y0 hE hO (by omega)
   replace J := ko J hE hO (by omega)
   replace G := h_
   replace R := bwo R hE hO R.size (by omega)
   clear hO h_
   have c0 := (J7 G 0).trans (J3 _ _ _ _ (by omega))
   have f0 := V2 G
   have lb := X6 N 0
   go_wp2_with fail
   have hs := Z8 G 0 (.int .i64 (Q6 N 0 - 65517))
   rw [V4] at hs
   have hF := And.intro (Z4 R (show w.heap.size ≤ V by omega) 0 (.int .i64 (Q6 N 0 - 65517))) (And.intro (J6 Y0 (show w.heap.size ≠ V by omega) 0 (.int .i64 (Q6 N 0 - 65517))) (And.intro (J6 J (show w.heap.size + 1 ≠ V by omega) 0 (.int .i64 (Q6 N 0 - 65517))) hs))
   generalize W5.setCell ⟨V, 0, none⟩ (.int .i64 (Q6 N 0 - 65517)) = Wm at hF ⊢
   clear R Y0 J G c0 f0 lb hs
   obtain ⟨R, Y0, J, G⟩ := hF
   have θ := Q2 G
   go_wp2_with fail
   go_loopw [5, 6] (fun oo ii wr => ∃ (k : Nat), k ≤ 16 ∧ ii = .int .i64 k ∧ oo = .int .i64 (J13 M PP k : Int) ∧ Below w.heap.size w wr ∧ Blk wr w.heap.size (J0 .i64 16 (Q6 N)) 124 ∧ Blk wr (w.heap.size + 1) (J0 .i64 16 (fun _ => 0)) 124 ∧ Blk wr V (J0 .i64 16 (J4h k (Q6 D) (upd (Q6 N) 0 (Q6 N 0 - 65517)))) 124)
    (fun oo ii _ => (16 - intOf ii).toNat)
   case atStart =>
    refine ⟨0, by omega, rfl, by rw [J66]; rfl, R, Y0, J, ?_⟩
    rw [J2i]
    exact G
   case round =>
    obtain ⟨k, hk, rfl, rfl, R, Y0, J, G⟩ := hrel
    by_cases U : k = 16
    ·
     have σ := U
     subst U
     rw [J3c] at G
     have X := Z0z N BN.out
     rw [← HM.out] at X
     (first | rw [if_pos HL.out] at X | rw [if_neg HL.out] at X)
     rw [X]
     clear X
     go_upto_region 21 with fail
     have ζ := Q2 Y0
     have η := Q2 J
     have μ := Q2 G
     refine Px 1 ?_
     refine XL ?_
     refine V7 fun W7 hE => ?_
     refine Lp ?_ (J2 J hE) (cells := J0 .i64 16 (Q6 N)) (h1 := (Z9 _ _ _))
     intro W8 hO h_
     refine J9 ?_
     replace Y0 := ko Y0 hE hO (by omega)
     replace J := h_
     replace G := ko G hE hO (by omega)
     replace R := bwo R hE hO R.size (by omega)
     clear hO h_
     go_wp2
     refine bodyPost_ret (Z6 rfl rfl J (by kernel_rfl) (by kernel_rfl)) rfl ⟨?_, R⟩
     rw [show J03 f 16 % PP = N by rw [← Z6b (J03 f 16), ← Z6b (cr (J03 f 16)), ← HW.out, ← HN.out, Nat.add_mul_mod_self_right, Nat.mod_eq_of_lt HL.out]]; rfl
    have β : k < 16 := by omega
    have hk3' : (k : Int) < 16 := by omega
    clear U
    have S := J45 M PP k (by rw [HM.out]; unfold Q5 PP; omega)
    rw [show M - PP = D by rw [HM.out, ξ.out], show Q6 M k = Q6 N k by rw [HM.out, Q2h N k β], Q8z k β] at S
    have c0 := (J7 G k).trans (J3 _ _ _ _ β)
    rw [J4i] at c0
    have f0 := V2 G
    have lb := X6 N k
    have bb := J4o M PP k
    have Z : ∀ v, v = Q6 D k → (J0 .i64 16 (J4h k (Q6 D) (upd (Q6 N) 0 (Q6 N 0 - 65517)))).setIfInBounds k (.int .i64 v) = J0 .i64 16 (J4h (k + 1) (Q6 D) (upd (Q6 N) 0 (Q6 N 0 - 65517))) := fun v hv => by rw [hv]; exact J2p _ _ _ _ _
    have HS := Lib.hid Z
    clear Z
    obtain ⟨bo, γ⟩ := V3 (J13 M PP k)
    rw [← γ] at S bb ⊢
    clear γ
    by_cases e0 : k = 0
    ·
     subst e0
     rw [if_pos rfl] at S
     have hu : upd (Q6 N) 0 (Q6 N 0 - 65517) 0 = Q6 N 0 - 65517 := J1t _ _ _
     rw [hu] at c0
     clear hu
     obtain ⟨x, hx⟩ := V3 (Q6 N 0)
     obtain ⟨d, T⟩ := V3 (Q6 D 0)
     have lD := X6 D 0
     rw [← hx] at c0 S lb
     rw [← T] at S lD
     have HD := Lib.hid T
     clear hx T
     rcases S with ⟨h1, h2⟩ | ⟨h1, h2, h3⟩
     ·
      have α : ¬ x - 65517 - (bo : Int) < 0 := by omega
      have H1 := Lib.hid h1
      have H2 := Lib.hid h2
      clear h1 h2 lD
      go_wp2
      have h1 := H1.out
      go_roundw
      case rel =>
       have hs := (Z8 G 0 (.int .i64 (x - 65517 - (bo : Int))))
       rw [HS.out (x - 65517 - (bo : Int)) (H2.out.trans HD.out)] at hs
       refine ⟨0 + 1, by omega, ?_, ?_, ?_, ?_, ?_, hs⟩
       ·
        go_num
       ·
        rw [h1]; rfl
       ·
        exact (Z4 R (by omega) _ _)
       ·
        exact (J6 Y0 (by omega) _ _)
       exact (J6 J (by omega) _ _)
      case measure => simp [intOf] <;> omega
     have H1 := Lib.hid h1
     have H2 := Lib.hid h3
     clear h1 h3 lD
     go_wp2
     have h1 := H1.out
     go_roundw
     case rel =>
      have hs := (Z8 (Z8 G 0 (.int .i64 (x - 65517 - (bo : Int)))) 0 (.int .i64 (x - 65517 - (bo : Int) + 65536)))
      simp only [Array.setIfInBounds_setIfInBounds] at hs
      rw [HS.out (x - 65517 - (bo : Int) + 65536) (H2.out.trans HD.out)] at hs
      refine ⟨0 + 1, by omega, ?_, ?_, ?_, ?_, ?_, hs⟩
      ·
       go_num
      ·
       rw [h1]; rfl
      ·
       exact (Z4 (Z4 R (by omega) _ _) (by omega) _ _)
      ·
       exact (J6 (J6 Y0 (by omega) _ _) (by omega) _ _)
      exact (J6 (J6 J (by omega) _ _) (by omega) _ _)
     case measure => simp [intOf] <;> omega
    rw [if_neg e0] at S
    rw [J0b _ _ _ _ e0] at c0
    by_cases Y : k = 15
    ·
     subst Y
     rw [if_pos rfl] at S
     clear e0
     obtain ⟨x, hx⟩ := V3 (Q6 N 15)
     obtain ⟨d, T⟩ := V3 (Q6 D 15)
     have lD := X6 D 15
     rw [← hx] at c0 S lb
     rw [← T] at S lD
     have HD := Lib.hid T
     clear hx T
     rcases S with ⟨h1, h2⟩ | ⟨h1, h2, h3⟩
     ·
      have α : ¬ x - 32767 - (bo : Int) < 0 := by omega
      have H1 := Lib.hid h1
      have H2 := Lib.hid h2
      clear h1 h2 lD
      go_wp2
      have h1 := H1.out
      go_roundw
      case rel =>
       have hs := (Z8 (Z8 G 15 (.int .i64 (x - 32767))) 15 (.int .i64 (x - 32767 - (bo : Int))))
       simp only [Array.setIfInBounds_setIfInBounds] at hs
       rw [HS.out (x - 32767 - (bo : Int)) (H2.out.trans HD.out)] at hs
       refine ⟨15 + 1, by omega, ?_, ?_, ?_, ?_, ?_, hs⟩
       ·
        go_num
       ·
        rw [h1]; rfl
       ·
        exact (Z4 (Z4 R (by omega) _ _) (by omega) _ _)
       ·
        exact (J6 (J6 Y0 (by omega) _ _) (by omega) _ _)
       exact (J6 (J6 J (by omega) _ _) (by omega) _ _)
      case measure => simp [intOf] <;> omega
     have H1 := Lib.hid h1
     have H2 := Lib.hid h3
     clear h1 h3 lD
     go_wp2
     have h1 := H1.out
     go_roundw
     case rel =>
      have hs := (Z8 (Z8 (Z8 G 15 (.int .i64 (x - 32767))) 15 (.int .i64 (x - 32767 - (bo : Int)))) 15 (.int .i64 (x - 32767 - (bo : Int) + 65536)))
      simp only [Array.setIfInBounds_setIfInBounds] at hs
      rw [HS.out (x - 32767 - (bo : Int) + 65536) (H2.out.trans HD.out)] at hs
      refine ⟨15 + 1, by omega, ?_, ?_, ?_, ?_, ?_, hs⟩
      ·
       go_num
      ·
       rw [h1]; rfl
      ·
       exact (Z4 (Z4 (Z4 R (by omega) _ _) (by omega) _ _) (by omega) _ _)
      ·
       exact (J6 (J6 (J6 Y0 (by omega) _ _) (by omega) _ _) (by omega) _ _)
      exact (J6 (J6 (J6 J (by omega) _ _) (by omega) _ _) (by omega) _ _)
     case measure => simp [intOf] <;> omega
    rw [if_neg Y] at S
    have p0 : (0 : Int) < (k : Int) := by omega
    have ρ : (k : Int) < 15 := by omega
    have φ : ((k : Int) == 15) = false := by rw [beq_eq_false_iff_ne]; omega
    have g1 : decide ((0 : Int) < (k : Int)) = true := decide_eq_true p0
    have g2 : decide ((k : Int) < 15) = true := decide_eq_true ρ
    have g3 : 0 < k := by omega
    have g4 : decide (0 < k) = true := decide_eq_true g3
    have g5 : k < 15 := by omega
    have g6 : decide (k < 15) = true := decide_eq_true g5
    have g7 : (k == 15) = false := by rw [beq_eq_false_iff_ne]; omega
    clear e0 Y
    obtain ⟨x, hx⟩ := V3 (Q6 N k)
    obtain ⟨d, T⟩ := V3 (Q6 D k)
    have lD := X6 D k
    rw [← hx] at c0 S lb
    rw [← T] at S lD
    have HD := Lib.hid T
    clear hx T
    rcases S with ⟨h1, h2⟩ | ⟨h1, h2, h3⟩
    ·
     have α : ¬ x - 65535 - (bo : Int) < 0 := by omega
     have H1 := Lib.hid h1
     have H2 := Lib.hid h2
     clear h1 h2 lD
     go_wp2
     have h1 := H1.out
     go_roundw
     case rel =>
      have hs := (Z8 (Z8 G k (.int .i64 (x - 65535))) k (.int .i64 (x - 65535 - (bo : Int))))
      simp only [Array.setIfInBounds_setIfInBounds] at hs
      rw [HS.out (x - 65535 - (bo : Int)) (H2.out.trans HD.out)] at hs
      refine ⟨k + 1, by omega, ?_, ?_, ?_, ?_, ?_, hs⟩
      ·
       go_num
      ·
       rw [h1]; rfl
      ·
       exact (Z4 (Z4 R (by omega) _ _) (by omega) _ _)
      ·
       exact (J6 (J6 Y0 (by omega) _ _) (by omega) _ _)
      exact (J6 (J6 J (by omega) _ _) (by omega) _ _)
     case measure => simp [intOf] <;> omega
    have H1 := Lib.hid h1
    have H2 := Lib.hid h3
    clear h1 h3 lD
    go_wp2
    have h1 := H1.out
    go_roundw
    case rel =>
     have hs := (Z8 (Z8 (Z8 G k (.int .i64 (x - 65535))) k (.int .i64 (x - 65535 - (bo : Int)))) k (.int .i64 (x - 65535 - (bo : Int) + 65536)))
     simp only [Array.setIfInBounds_setIfInBounds] at hs
     rw [HS.out (x - 65535 - (bo : Int) + 65536) (H2.out.trans HD.out)] at hs
     refine ⟨k + 1, by omega, ?_, ?_, ?_, ?_, ?_, hs⟩
     ·
      go_num
     ·
      rw [h1]; rfl
     ·
      exact (Z4 (Z4 (Z4 R (by omega) _ _) (by omega) _ _) (by omega) _ _)
     ·
      exact (J6 (J6 (J6 Y0 (by omega) _ _) (by omega) _ _) (by omega) _ _)
     exact (J6 (J6 (J6 J (by omega) _ _) (by omega) _ _) (by omega) _ _)
    case measure => simp [intOf] <;> omega
  have HL := Lib.hid δ
  clear δ
  go_upto_region 5 with fail
  have ε := Q2 Y0
  have κ := Q2 J
  refine Px1 1 4 (z := J0 .i64 16 (fun _ => 0)) (t := 124) ?_
  refine XL ?_
  refine XN ?_
  intro V W4 ν hE G
  have χ := R.size
  refine Lp ?_ G (cells := J0 .i64 16 (Q6 N)) (h1 := (Z9 _ _ _))
  intro W5 hO h_
  refine J9 ?_
  replace Y0 := ko Y0 hE hO (by omega)
  replace J := ko J hE hO (by omega)
  replace G := h_
  replace R := bwo R hE hO R.size (by omega)
  clear hO h_
  have c0 := (J7 G 0).trans (J3 _ _ _ _ (by omega))
  have f0 := V2 G
  have lb := X6 N 0
  go_wp2_with fail
  have hs := Z8 G 0 (.int .i64 (Q6 N 0 - 65517))
  rw [V4] at hs
  have hF := And.intro (Z4 R (show w.heap.size ≤ V by omega) 0 (.int .i64 (Q6 N 0 - 65517))) (And.intro (J6 Y0 (show w.heap.size ≠ V by omega) 0 (.int .i64 (Q6 N 0 - 65517))) (And.intro (J6 J (show w.heap.size + 1 ≠ V by omega) 0 (.int .i64 (Q6 N 0 - 65517))) hs))
  generalize W5.setCell ⟨V, 0, none⟩ (.int .i64 (Q6 N 0 - 65517)) = Wm at hF ⊢
  clear R Y0 J G c0 f0 lb hs
  obtain ⟨R, Y0, J, G⟩ := hF
  have θ := Q2 G
  go_wp2_with fail
  go_loopw [5, 6] (fun oo ii wr => ∃ (k : Nat), k ≤ 16 ∧ ii = .int .i64 k ∧ oo = .int .i64 (J13 M PP k : Int) ∧ Below w.heap.size w wr ∧ Blk wr w.heap.size (J0 .i64 16 (Q6 N)) 124 ∧ Blk wr (w.heap.size + 1) (J0 .i64 16 (fun _ => 0)) 124 ∧ Blk wr V (J0 .i64 16 (J4h k (Q6 D) (upd (Q6 N) 0 (Q6 N 0 - 65517)))) 124)
   (fun oo ii _ => (16 - intOf ii).toNat)
  case atStart =>
   refine ⟨0, by omega, rfl, by rw [J66]; rfl, R, Y0, J, ?_⟩
   rw [J2i]
   exact G
  case round =>
   obtain ⟨k, hk, rfl, rfl, R, Y0, J, G⟩ := hrel
   by_cases U : k = 16
   ·
    have σ := U
    subst U
    rw [J3c] at G
    have X := Z0z N BN.out
    rw [← HM.out] at X
    (first | rw [if_pos HL.out] at X | rw [if_neg HL.out] at X)
    rw [X]
    clear X
    go_upto_region 22 with fail
    have ζ := Q2 Y0
    have η := Q2 J
    have μ := Q2 G
    refine Px 1 ?_
    refine XL ?_
    refine V7 fun W7 hE => ?_
    refine LS ?_ (J2 Y0 hE) (g := w.heap.size) (cells := J0 .i64 16 (Q6 D)) (h1 := (Z9 _ _ _))
    refine J9 ?_
    have hF : Below w.heap.size w (W7.setRow w.heap.size (J0 .i64 16 (Q6 D))) ∧ Blk (W7.setRow w.heap.size (J0 .i64 16 (Q6 D))) w.heap.size (J0 .i64 16 (Q6 D)) 124 ∧ Blk (W7.setRow w.heap.size (J0 .i64 16 (Q6 D))) (w.heap.size + 1) (J0 .i64 16 (fun _ => 0)) 124 ∧ Blk (W7.setRow w.heap.size (J0 .i64 16 (Q6 D))) V (J0 .i64 16 (Q6 D)) 124 := ⟨(Z7 (Y4 R hE R.size) (by omega) _), (Y8 (J2 Y0 hE) (J0 .i64 16 (Q6 D))), (Q0 (J2 J hE) (by omega) _), (Q0 (J2 G hE) (by omega) _)⟩
    generalize (W7.setRow w.heap.size (J0 .i64 16 (Q6 D))) = W8 at hF ⊢
    clear R Y0 J G
    obtain ⟨R, Y0, J, G⟩ := hF
    go_wp2_with fail
    go_roundw
    case rel =>
     refine ⟨t + 1, N - PP, by omega, by go_num, by have := HN.out; have := HL.out; rw [Nat.add_mul]; omega, R, ?_, J⟩
     rw [← Y0s N BN.out HL.out, ← ξ.out]; exact Y0
    case measure => simp [intOf]; omega
   have β : k < 16 := by omega
   have hk3' : (k : Int) < 16 := by omega
   clear U
   have S := J45 M PP k (by rw [HM.out]; unfold Q5 PP; omega)
   rw [show M - PP = D by rw [HM.out, ξ.out], show Q6 M k = Q6 N k by rw [HM.out, Q2h N k β], Q8z k β] at S
   have c0 := (J7 G k).trans (J3 _ _ _ _ β)
   rw [J4i] at c0
   have f0 := V2 G
   have lb := X6 N k
   have bb := J4o M PP k
   have Z : ∀ v, v = Q6 D k → (J0 .i64 16 (J4h k (Q6 D) (upd (Q6 N) 0 (Q6 N 0 - 65517)))).setIfInBounds k (.int .i64 v) = J0 .i64 16 (J4h (k + 1) (Q6 D) (upd (Q6 N) 0 (Q6 N 0 - 65517))) := fun v hv => by rw [hv]; exact J2p _ _ _ _ _
   have HS := Lib.hid Z
   clear Z
   obtain ⟨bo, γ⟩ := V3 (J13 M PP k)
   rw [← γ] at S bb ⊢
   clear γ
   by_cases e0 : k = 0
   ·
    subst e0
    rw [if_pos rfl] at S
    have hu : upd (Q6 N) 0 (Q6 N 0 - 65517) 0 = Q6 N 0 - 65517 := J1t _ _ _
    rw [hu] at c0
    clear hu
    obtain ⟨x, hx⟩ := V3 (Q6 N 0)
    obtain ⟨d, T⟩ := V3 (Q6 D 0)
    have lD := X6 D 0
    rw [← hx] at c0 S lb
    rw [← T] at S lD
    have HD := Lib.hid T
    clear hx T
    rcases S with ⟨h1, h2⟩ | ⟨h1, h2, h3⟩
    ·
     have α : ¬ x - 65517 - (bo : Int) < 0 := by omega
     have H1 := Lib.hid h1
     have H2 := Lib.hid h2
     clear h1 h2 lD
     go_wp2
     have h1 := H1.out
     go_roundw
     case rel =>
      have hs := (Z8 G 0 (.int .i64 (x - 65517 - (bo : Int))))
      rw [HS.out (x - 65517 - (bo : Int)) (H2.out.trans HD.out)] at hs
      refine ⟨0 + 1, by omega, ?_, ?_, ?_, ?_, ?_, hs⟩
      ·
       go_num
      ·
       rw [h1]; rfl
      ·
       exact (Z4 R (by omega) _ _)
      ·
       exact (J6 Y0 (by omega) _ _)
      exact (J6 J (by omega) _ _)
     case measure => simp [intOf] <;> omega
    have H1 := Lib.hid h1
    have H2 := Lib.hid h3
    clear h1 h3 lD
    go_wp2
    have h1 := H1.out
    go_roundw
    case rel =>
     have hs := (Z8 (Z8 G 0 (.int .i64 (x - 65517 - (bo : Int)))) 0 (.int .i64 (x - 65517 - (bo : Int) + 65536)))
     simp only [Array.setIfInBounds_setIfInBounds] at hs
     rw [HS.out (x - 65517 - (bo : Int) + 65536) (H2.out.trans HD.out)] at hs
     refine ⟨0 + 1, by omega, ?_, ?_, ?_, ?_, ?_, hs⟩
     ·
      go_num
     ·
      rw [h1]; rfl
     ·
      exact (Z4 (Z4 R (by omega) _ _) (by omega) _ _)
     ·
      exact (J6 (J6 Y0 (by omega) _ _) (by omega) _ _)
     exact (J6 (J6 J (by omega) _ _) (by omega) _ _)
    case measure => simp [intOf] <;> omega
   rw [if_neg e0] at S
   rw [J0b _ _ _ _ e0] at c0
   by_cases Y : k = 15
   ·
    subst Y
    rw [if_pos rfl] at S
    clear e0
    obtain ⟨x, hx⟩ := V3 (Q6 N 15)
    obtain ⟨d, T⟩ := V3 (Q6 D 15)
    have lD := X6 D 15
    rw [← hx] at c0 S lb
    rw [← T] at S lD
    have HD := Lib.hid T
    clear hx T
    rcases S with ⟨h1, h2⟩ | ⟨h1, h2, h3⟩
    ·
     have α : ¬ x - 32767 - (bo : Int) < 0 := by omega
     have H1 := Lib.hid h1
     have H2 := Lib.hid h2
     clear h1 h2 lD
     go_wp2
     have h1 := H1.out
     go_roundw
     case rel =>
      have hs := (Z8 (Z8 G 15 (.int .i64 (x - 32767))) 15 (.int .i64 (x - 32767 - (bo : Int))))
      simp only [Array.setIfInBounds_setIfInBounds] at hs
      rw [HS.out (x - 32767 - (bo : Int)) (H2.out.trans HD.out)] at hs
      refine ⟨15 + 1, by omega, ?_, ?_, ?_, ?_, ?_, hs⟩
      ·
       go_num
      ·
       rw [h1]; rfl
      ·
       exact (Z4 (Z4 R (by omega) _ _) (by omega) _ _)
      ·
       exact (J6 (J6 Y0 (by omega) _ _) (by omega) _ _)
      exact (J6 (J6 J (by omega) _ _) (by omega) _ _)
     case measure => simp [intOf] <;> omega
    have H1 := Lib.hid h1
    have H2 := Lib.hid h3
    clear h1 h3 lD
    go_wp2
    have h1 := H1.out
    go_roundw
    case rel =>
     have hs := (Z8 (Z8 (Z8 G 15 (.int .i64 (x - 32767))) 15 (.int .i64 (x - 32767 - (bo : Int)))) 15 (.int .i64 (x - 32767 - (bo : Int) + 65536)))
     simp only [Array.setIfInBounds_setIfInBounds] at hs
     rw [HS.out (x - 32767 - (bo : Int) + 65536) (H2.out.trans HD.out)] at hs
     refine ⟨15 + 1, by omega, ?_, ?_, ?_, ?_, ?_, hs⟩
     ·
      go_num
     ·
      rw [h1]; rfl
     ·
      exact (Z4 (Z4 (Z4 R (by omega) _ _) (by omega) _ _) (by omega) _ _)
     ·
      exact (J6 (J6 (J6 Y0 (by omega) _ _) (by omega) _ _) (by omega) _ _)
     exact (J6 (J6 (J6 J (by omega) _ _) (by omega) _ _) (by omega) _ _)
    case measure => simp [intOf] <;> omega
   rw [if_neg Y] at S
   have p0 : (0 : Int) < (k : Int) := by omega
   have ρ : (k : Int) < 15 := by omega
   have φ : ((k : Int) == 15) = false := by rw [beq_eq_false_iff_ne]; omega
   have g1 : decide ((0 : Int) < (k : Int)) = true := decide_eq_true p0
   have g2 : decide ((k : Int) < 15) = true := decide_eq_true ρ
   have g3 : 0 < k := by omega
   have g4 : decide (0 < k) = true := decide_eq_true g3
   have g5 : k < 15 := by omega
   have g6 : decide (k < 15) = true := decide_eq_true g5
   have g7 : (k == 15) = false := by rw [beq_eq_false_iff_ne]; omega
   clear e0 Y
   obtain ⟨x, hx⟩ := V3 (Q6 N k)
   obtain ⟨d, T⟩ := V3 (Q6 D k)
   have lD := X6 D k
   rw [← hx] at c0 S lb
   rw [← T] at S lD
   have HD := Lib.hid T
   clear hx T
   rcases S with ⟨h1, h2⟩ | ⟨h1, h2, h3⟩
   ·
    have α : ¬ x - 65535 - (bo : Int) < 0 := by omega
    have H1 := Lib.hid h1
    have H2 := Lib.hid h2
    clear h1 h2 lD
    go_wp2
    have h1 := H1.out
    go_roundw
    case rel =>
     have hs := (Z8 (Z8 G k (.int .i64 (x - 65535))) k (.int .i64 (x - 65535 - (bo : Int))))
     simp only [Array.setIfInBounds_setIfInBounds] at hs
     rw [HS.out (x - 65535 - (bo : Int)) (H2.out.trans HD.out)] at hs
     refine ⟨k + 1, by omega, ?_, ?_, ?_, ?_, ?_, hs⟩
     ·
      go_num
     ·
      rw [h1]; rfl
     ·
      exact (Z4 (Z4 R (by omega) _ _) (by omega) _ _)
     ·
      exact (J6 (J6 Y0 (by omega) _ _) (by omega) _ _)
     exact (J6 (J6 J (by omega) _ _) (by omega) _ _)
    case measure => simp [intOf] <;> omega
   have H1 := Lib.hid h1
   have H2 := Lib.hid h3
   clear h1 h3 lD
   go_wp2
   have h1 := H1.out
   go_roundw
   case rel =>
    have hs := (Z8 (Z8 (Z8 G k (.int .i64 (x - 65535))) k (.int .i64 (x - 65535 - (bo : Int)))) k (.int .i64 (x - 65535 - (bo : Int) + 65536)))
    simp only [Array.setIfInBounds_setIfInBounds] at hs
    rw [HS.out (x - 65535 - (bo : Int) + 65536) (H2.out.trans HD.out)] at hs
    refine ⟨k + 1, by omega, ?_, ?_, ?_, ?_, ?_, hs⟩
    ·
     go_num
    ·
     rw [h1]; rfl
    ·
     exact (Z4 (Z4 (Z4 R (by omega) _ _) (by omega) _ _) (by omega) _ _)
    ·
     exact (J6 (J6 (J6 Y0 (by omega) _ _) (by omega) _ _) (by omega) _ _)
    exact (J6 (J6 (J6 J (by omega) _ _) (by omega) _ _) (by omega) _ _)
   case measure => simp [intOf] <;> omega
end

section
set_option maxHeartbeats 4000000

theorem Z10 (X : Nat) : okF (Q6 X) := fun j => by have := X6 X j; omega
theorem Y0t (X Y : Nat) : okF (fun j => Q6 X j + Q6 Y j) := fun j => by have := X6 X j; have := X6 Y j; dsimp only; omega
theorem Z6c (X Y : Nat) (hX : X < Q5) (hY : Y < Q5) : J03 (fun j => Q6 X j + Q6 Y j) 16 = X + Y := by
  rw [Q1m _ _ (fun j => (X6 X j).1) (fun j => (X6 Y j).1), J6y, J6y, show (2 : Nat) ^ (16 * 16) = Q5 by decide, Nat.mod_eq_of_lt hX, Nat.mod_eq_of_lt hY]
theorem Q78 (X : Nat) (hX : X < Q5) : J03 (Q6 X) 16 = X := by
  rw [J6y, show (2 : Nat) ^ (16 * 16) = Q5 by decide, Nat.mod_eq_of_lt hX]
theorem J7b (X Y : Nat) (hX : X < Q5) (hY : Y < Q5) (w : World) :
  Calls Tryz.prog 115 #[A16 X, A16 Y] w fun e w' => K7 (A16 ((X + Y) % PP)) w w' e := by
 have HX := Lib.hid hX
 have HY := Lib.hid hY
 clear hX hY
 unfold A16
 go_enter Tryz.func115, Tryz.ntmps115
 go_wp2_with fail
 refine wn3 (c1 := (J0 .i64 16 (Q6 X))) (t1 := 124) (c2 := (J0 .i64 16 (Q6 Y))) (t2 := 124) (c3 := (J0 .i64 16 (fun _ => 0))) (t3 := 124) fun W0 M D G J => ?_
 have U := Q2 D
 have Z := Q2 G
 have α := Q2 J
 go_wp2_with fail
 go_loopw [5] (fun ii wr => ∃ (k : Nat), k ≤ 16 ∧ ii = .int .i64 k ∧ Below w.heap.size w wr ∧ Blk wr w.heap.size (J0 .i64 16 (J4h k (fun j => Q6 X j + Q6 Y j) (Q6 X))) 124 ∧ Blk wr (w.heap.size + 1) (J0 .i64 16 (Q6 Y)) 124 ∧ Blk wr (w.heap.size + 2) (J0 .i64 16 (fun _ => 0)) 124)
  (fun ii _ => (16 - intOf ii).toNat)
 case atStart =>
  refine ⟨0, by omega, rfl, M, ?_, G, J⟩
  rw [J2i]; exact D
 case round =>
  obtain ⟨k, hk, rfl, M, D, G, J⟩ := hrel
  by_cases N : k = 16
  ·
   have δ := N
   subst N
   rw [J3c] at D
   go_upto_region 5 with fail
   have γ := Q2 D
   have V := Q2 G
   have β := Q2 J
   have S := Q12 (fun j => Q6 X j + Q6 Y j) (Y0t X Y)
   rw [Z6c X Y HX.out HY.out] at S
   obtain ⟨R, hR⟩ := V3 ((X + Y) % PP)
   rw [← hR] at S
   have HR := Lib.hid hR
   clear hR
   refine Px 2 ?_
   refine XL ?_
   refine Xf ?_ (fun W hW => S W)
   refine V7 fun W2 hE => ?_
   refine Lp ?_ (J2 J hE) (cells := J0 .i64 16 (Q6 R)) (h1 := (Z9 _ _ _))
   intro W3 hO h_
   refine J9 ?_
   replace D := ko D hE hO (by omega)
   replace G := ko G hE hO (by omega)
   replace J := h_
   replace M := bwo M hE hO M.size (by omega)
   clear hO h_
   go_wp2
   refine bodyPost_ret (Z6 rfl rfl J (by kernel_rfl) (by kernel_rfl)) rfl ⟨?_, M⟩
   (rw [← HR.out] <;> rfl)
  have T : k < 16 := by omega
  have hk3' : (k : Int) < 16 := by omega
  clear N
  have c0 := (J7 D k).trans (J3 _ _ _ _ T)
  rw [J4i] at c0
  have c1 := (J7 G k).trans (J3 _ _ _ _ T)
  have f0 := V2 D
  have l0 := X6 X k
  have l1 := X6 Y k
  have w1 : IntKind.i64.wrap (Q6 X k + Q6 Y k) = Q6 X k + Q6 Y k := IntWalk.i64_in _ (by omega)
  go_wp2
  go_region
  go_wp2
  have hs := Z8 D k (.int .i64 (Q6 X k + Q6 Y k))
  have hm := J2p .i64 16 k (fun j => Q6 X j + Q6 Y j) (Q6 X)
  rw [hm] at hs
  go_roundw
  case rel =>
   refine ⟨k + 1, by omega, ?_, ?_, Y6 hs, ?_, ?_⟩
   ·
    (first | rfl | go_num)
   ·
    exact (Z4 M (by omega) _ _).drew
   ·
    exact Y6 (J6 G (by omega) _ _)
   exact Y6 (J6 J (by omega) _ _)
  case measure => simp [intOf]; omega
end

section
set_option maxHeartbeats 4000000

end

section
set_option maxHeartbeats 4000000

theorem Q2i (X : Nat) (hX : X ≤ PP) (w : World) :
  Calls Tryz.prog 117 #[A16 X] w fun e w' => K7 (A16 ((PP - X) % PP)) w w' e := by
 have HX := Lib.hid hX
 clear hX
 unfold A16
 go_enter Tryz.func117, Tryz.ntmps117
 go_wp2_with fail
 refine wn3 (c1 := (J0 .i64 16 (Q6 X))) (t1 := 124) (c2 := (J0 .i64 16 (fun _ => 0))) (t2 := 124) (c3 := (J0 .i64 16 (fun _ => 0))) (t3 := 124) fun W0 N Y0 J G => ?_
 have ε := Q2 Y0
 have δ := Q2 J
 have η := Q2 G
 obtain ⟨D, hD⟩ := V3 (PP - X)
 have HD := Lib.hid hD
 clear hD
 go_wp2_with fail
 go_loopw [4, 5] (fun oo ii wr => ∃ (k : Nat), k ≤ 16 ∧ ii = .int .i64 k ∧ oo = .int .i64 (J13 PP X k : Int) ∧ Below w.heap.size w wr ∧ Blk wr w.heap.size (J0 .i64 16 (Q6 X)) 124 ∧ Blk wr (w.heap.size + 1) (J0 .i64 16 (fun _ => 0)) 124 ∧ Blk wr (w.heap.size + 2) (J0 .i64 16 (J4h k (Q6 D) (fun _ => 0))) 124)
  (fun oo ii _ => (16 - intOf ii).toNat)
 case atStart =>
  refine ⟨0, by omega, rfl, by rw [J66]; rfl, N, Y0, J, ?_⟩
  rw [J2i]; exact G
 case round =>
  obtain ⟨k, hk, rfl, rfl, N, Y0, J, G⟩ := hrel
  by_cases U : k = 16
  ·
   have ρ := U
   subst U
   rw [J3c] at G
   have bD : D < Q5 := by rw [HD.out]; exact Nat.lt_of_le_of_lt (Nat.sub_le _ _) J5x
   have BD := Lib.hid bD
   clear bD
   go_upto_region 16 with fail
   have ζ := Q2 Y0
   have κ := Q2 J
   have θ := Q2 G
   have α := Q12 (Q6 D) (Z10 D)
   rw [Q78 D BD.out] at α
   obtain ⟨R, hR⟩ := V3 (D % PP)
   rw [← hR] at α
   have HR := Lib.hid hR
   clear hR
   refine Px 2 ?_
   refine XL ?_
   refine Xf ?_ (fun W hW => α W)
   refine V7 fun W2 hE => ?_
   refine Lp ?_ (J2 J hE) (cells := J0 .i64 16 (Q6 R)) (h1 := (Z9 _ _ _))
   intro W3 hO h_
   refine J9 ?_
   replace Y0 := ko Y0 hE hO (by omega)
   replace J := h_
   replace G := ko G hE hO (by omega)
   replace N := bwo N hE hO N.size (by omega)
   clear hO h_
   go_wp2
   refine bodyPost_ret (Z6 rfl rfl J (by kernel_rfl) (by kernel_rfl)) rfl ⟨?_, N⟩
   (rw [← HD.out, ← HR.out] <;> rfl)
  have Z : k < 16 := by omega
  have hk3' : (k : Int) < 16 := by omega
  clear U
  have M := J45 PP X k HX.out
  rw [← HD.out, Q8z k Z] at M
  have c0 := (J7 G k).trans (J3 _ _ _ _ Z)
  rw [J4i] at c0
  have c1 := (J7 Y0 k).trans (J3 _ _ _ _ Z)
  have f0 := V2 G
  have lb := X6 X k
  have bb := J4o PP X k
  have V : ∀ v, v = Q6 D k → (J0 .i64 16 (J4h k (Q6 D) (fun _ => 0))).setIfInBounds k (.int .i64 v) = J0 .i64 16 (J4h (k + 1) (Q6 D) (fun _ => 0)) := fun v hv => by rw [hv]; exact J2p _ _ _ _ _
  have HS := Lib.hid V
  clear V
  obtain ⟨bo, β⟩ := V3 (J13 PP X k)
  rw [← β] at M bb ⊢
  clear β
  by_cases e0 : k = 0
  ·
   subst e0
   rw [if_pos rfl] at M
   obtain ⟨x, hx⟩ := V3 (Q6 X 0)
   obtain ⟨d, S⟩ := V3 (Q6 D 0)
   have lD := X6 D 0
   rw [← hx] at c1 M lb
   rw [← S] at M lD
   have T := Lib.hid S
   clear hx S
   rcases M with ⟨h1, h2⟩ | ⟨h1, h2, h3⟩
   ·
    have Y : ¬ 65517 - x - (bo : Int) < 0 := by omega
    have H1 := Lib.hid h1
    have H2 := Lib.hid h2
    clear h1 h2 lD
    go_wp2
    have h1 := H1.out
    go_roundw
    case rel =>
     have hs := (Z8 G 0 (.int .i64 (65517 - x - (bo : Int))))
     rw [HS.out (65517 - x - (bo : Int)) (H2.out.trans T.out)] at hs
     refine ⟨0 + 1, by omega, ?_, ?_, ?_, ?_, ?_, hs⟩
     ·
      (first | rfl | go_num)
     ·
      rw [h1]; rfl
     ·
      exact (Z4 N (by omega) _ _)
     ·
      exact (J6 Y0 (by omega) _ _)
     exact (J6 J (by omega) _ _)
    case measure => simp [intOf] <;> omega
   have H1 := Lib.hid h1
   have H2 := Lib.hid h3
   clear h1 h3 lD
   go_wp2
   have h1 := H1.out
   go_roundw
   case rel =>
    have hs := (Z8 (Z8 G 0 (.int .i64 (65517 - x - (bo : Int)))) 0 (.int .i64 (65517 - x - (bo : Int) + 65536)))
    simp only [Array.setIfInBounds_setIfInBounds] at hs
    rw [HS.out (65517 - x - (bo : Int) + 65536) (H2.out.trans T.out)] at hs
    refine ⟨0 + 1, by omega, ?_, ?_, ?_, ?_, ?_, hs⟩
    ·
     (first | rfl | go_num)
    ·
     rw [h1]; rfl
    ·
     exact (Z4 (Z4 N (by omega) _ _) (by omega) _ _)
    ·
     exact (J6 (J6 Y0 (by omega) _ _) (by omega) _ _)
    exact (J6 (J6 J (by omega) _ _) (by omega) _ _)
   case measure => simp [intOf] <;> omega
  rw [if_neg e0] at M
  by_cases γ : k = 15
  ·
   subst γ
   rw [if_pos rfl] at M
   clear e0
   obtain ⟨x, hx⟩ := V3 (Q6 X 15)
   obtain ⟨d, S⟩ := V3 (Q6 D 15)
   have lD := X6 D 15
   rw [← hx] at c1 M lb
   rw [← S] at M lD
   have T := Lib.hid S
   clear hx S
   rcases M with ⟨h1, h2⟩ | ⟨h1, h2, h3⟩
   ·
    have Y : ¬ 32767 - x - (bo : Int) < 0 := by omega
    have H1 := Lib.hid h1
    have H2 := Lib.hid h2
    clear h1 h2 lD
    go_wp2
    have h1 := H1.out
    go_roundw
    case rel =>
     have hs := (Z8 G 15 (.int .i64 (32767 - x - (bo : Int))))
     rw [HS.out (32767 - x - (bo : Int)) (H2.out.trans T.out)] at hs
     refine ⟨15 + 1, by omega, ?_, ?_, ?_, ?_, ?_, hs⟩
     ·
      (first | rfl | go_num)
     ·
      rw [h1]; rfl
     ·
      exact (Z4 N (by omega) _ _)
     ·
      exact (J6 Y0 (by omega) _ _)
     exact (J6 J (by omega) _ _)
    case measure => simp [intOf] <;> omega
   have H1 := Lib.hid h1
   have H2 := Lib.hid h3
   clear h1 h3 lD
   go_wp2
   have h1 := H1.out
   go_roundw
   case rel =>
    have hs := (Z8 (Z8 G 15 (.int .i64 (32767 - x - (bo : Int)))) 15 (.int .i64 (32767 - x - (bo : Int) + 65536)))
    simp only [Array.setIfInBounds_setIfInBounds] at hs
    rw [HS.out (32767 - x - (bo : Int) + 65536) (H2.out.trans T.out)] at hs
    refine ⟨15 + 1, by omega, ?_, ?_, ?_, ?_, ?_, hs⟩
    ·
     (first | rfl | go_num)
    ·
     rw [h1]; rfl
    ·
     exact (Z4 (Z4 N (by omega) _ _) (by omega) _ _)
    ·
     exact (J6 (J6 Y0 (by omega) _ _) (by omega) _ _)
    exact (J6 (J6 J (by omega) _ _) (by omega) _ _)
   case measure => simp [intOf] <;> omega
  rw [if_neg γ] at M
  have p0 : ¬ (k : Int) = 0 := by omega
  have ξ : ¬ (k : Int) = 15 := by omega
  have ν : ((k : Int) == 0) = false := by rw [beq_eq_false_iff_ne]; omega
  have μ : ((k : Int) == 15) = false := by rw [beq_eq_false_iff_ne]; omega
  have g6 : (k == 0) = false := by rw [beq_eq_false_iff_ne]; omega
  have g7 : (k == 15) = false := by rw [beq_eq_false_iff_ne]; omega
  obtain ⟨x, hx⟩ := V3 (Q6 X k)
  obtain ⟨d, S⟩ := V3 (Q6 D k)
  have lD := X6 D k
  rw [← hx] at c1 M lb
  rw [← S] at M lD
  have T := Lib.hid S
  clear hx S
  rcases M with ⟨h1, h2⟩ | ⟨h1, h2, h3⟩
  ·
   have Y : ¬ 65535 - x - (bo : Int) < 0 := by omega
   have H1 := Lib.hid h1
   have H2 := Lib.hid h2
   clear h1 h2 lD
   go_wp2
   have h1 := H1.out
   go_roundw
   case rel =>
    have hs := (Z8 G k (.int .i64 (65535 - x - (bo : Int))))
    rw [HS.out (65535 - x - (bo : Int)) (H2.out.trans T.out)] at hs
    refine ⟨k + 1, by omega, ?_, ?_, ?_, ?_, ?_, hs⟩
    ·
     (first | rfl | go_num)
    ·
     rw [h1]; rfl
    ·
     exact (Z4 N (by omega) _ _)
    ·
     exact (J6 Y0 (by omega) _ _)
    exact (J6 J (by omega) _ _)
   case measure => simp [intOf] <;> omega
  have H1 := Lib.hid h1
  have H2 := Lib.hid h3
  clear h1 h3 lD
  go_wp2
  have h1 := H1.out
  go_roundw
  case rel =>
   have hs := (Z8 (Z8 G k (.int .i64 (65535 - x - (bo : Int)))) k (.int .i64 (65535 - x - (bo : Int) + 65536)))
   simp only [Array.setIfInBounds_setIfInBounds] at hs
   rw [HS.out (65535 - x - (bo : Int) + 65536) (H2.out.trans T.out)] at hs
   refine ⟨k + 1, by omega, ?_, ?_, ?_, ?_, ?_, hs⟩
   ·
    (first | rfl | go_num)
   ·
    rw [h1]; rfl
   ·
    exact (Z4 (Z4 N (by omega) _ _) (by omega) _ _)
   ·
    exact (J6 (J6 Y0 (by omega) _ _) (by omega) _ _)
   exact (J6 (J6 J (by omega) _ _) (by omega) _ _)
  case measure => simp [intOf] <;> omega
theorem Q5c (X Y : Nat) (hX : X < Q5) (hY : Y ≤ PP) (w : World) :
  Calls Tryz.prog 114 #[A16 X, A16 Y] w fun e w' => K7 (A16 ((X + (PP - Y) % PP) % PP)) w w' e := by
 have HX := Lib.hid hX
 have HY := Lib.hid hY
 clear hX hY
 unfold A16
 go_enter Tryz.func114, Tryz.ntmps114
 go_upto_region 1 with fail
 refine wn3 (c1 := (J0 .i64 16 (Q6 X))) (t1 := 124) (c2 := (J0 .i64 16 (Q6 Y))) (t2 := 124) (c3 := (J0 .i64 16 (fun _ => 0))) (t3 := 124) fun W0 N J G D => ?_
 have U := Q2 J
 have V := Q2 G
 have Z := Q2 D
 have R := Q2i Y HY.out
 obtain ⟨M, hM⟩ := V3 ((PP - Y) % PP)
 rw [← hM] at R
 have HM := Lib.hid hM
 have bM := Q8u hM
 have BM := Lib.hid bM
 clear hM bM
 have T := J7b X M HX.out BM.out
 obtain ⟨S, hS⟩ := V3 ((X + M) % PP)
 rw [← hS] at T
 have α := Lib.hid hS
 clear hS
 refine Rx 4 ?_
 refine XL ?_
 refine XL ?_
 refine Xf ?_ (fun W hW => R W)
 refine Xf ?_ (fun W hW => T W)
 refine V7 fun W1 hE => ?_
 refine Lp ?_ (J2 D hE) (cells := J0 .i64 16 (Q6 S)) (h1 := (Z9 _ _ _))
 intro W2 hO h_
 refine LN ?_
 replace J := ko J hE hO (by omega)
 replace G := ko G hE hO (by omega)
 replace D := h_
 replace N := bwo N hE hO N.size (by omega)
 clear hO h_
 go_wp2
 refine bodyPost_ret (Z6 rfl rfl D (by kernel_rfl) (by kernel_rfl)) rfl ⟨?_, N⟩
 (rw [← HM.out, ← α.out] <;> rfl)
end

section
set_option maxHeartbeats 4000000

theorem Q2j (f : Nat → Int) (m : Nat) : ∀ n, J03 f (m + n) = J03 f m + 2 ^ (16 * m) * J03 (fun j => f (m + j)) n
  | 0 => by simp [J03]
  | n + 1 => by
    show J03 f (m + n) + (f (m + n)).toNat * 2 ^ (16 * (m + n)) = J03 f m + 2 ^ (16 * m) * (J03 (fun j => f (m + j)) n + (f (m + n)).toNat * 2 ^ (16 * n))
    rw [Q2j f m n, Nat.mul_add, Nat.pow_add, Nat.mul_add (2 ^ (16 * m)), Nat.mul_left_comm (2 ^ (16 * m))]; omega
theorem Q2k (f : Nat → Int) (hf : ∀ j, 0 ≤ f j) (c : Nat) : ∀ n, J03 (fun j => (c : Int) * f j) n = c * J03 f n
  | 0 => rfl
  | n + 1 => by
    show J03 _ n + ((c : Int) * f n).toNat * _ = c * (J03 f n + (f n).toNat * _)
    obtain ⟨x, hx⟩ := Int.eq_ofNat_of_zero_le (hf n)
    rw [Q2k f hf c n, Nat.mul_add, hx, ← Int.natCast_mul, Int.toNat_natCast, Int.toNat_natCast, Nat.mul_assoc]
def J7c (F : Nat → Int) : Nat → Int := fun j => F j + 38 * F (j + 16)
theorem Q90 (F : Nat → Int) (h : ∀ j, 0 ≤ F j) : J03 (J7c F) 16 % PP = J03 F 32 % PP := by
  have e1 : J03 (J7c F) 16 = J03 F 16 + 38 * J03 (fun j => F (16 + j)) 16 := by
    have := Q1m F (fun j => (38 : Nat) * F (16 + j)) h (fun j => Int.mul_nonneg (by omega) (h _)) 16
    rw [Q2k (fun j => F (16 + j)) (fun j => h (16 + j)) 38 16] at this
    rw [← this]
    apply J8g
    intro j _
    unfold J7c
    rw [Nat.add_comm j 16]; rfl
  have e2 := Q2j F 16 16
  rw [show 16 + 16 = 32 by decide, show (2 : Nat) ^ (16 * 16) = Q5 by decide, show Q5 = 2 * PP + 38 from PP_two.symm] at e2
  rw [e1, e2, Nat.add_mul, Nat.mul_comm 2 PP, Nat.mul_assoc PP, ← Nat.add_assoc, Nat.add_right_comm, Nat.add_mul_mod_self_left]
theorem Z33 (F : Nat → Int) (h : ∀ j, 0 ≤ F j) (X Y i k : Nat) (hi : i < 16) (hk : k < 16) (B : Nat) (hB : ∀ j, F j ≤ (B : Int)) (hs : J03 F 32 = X % 2 ^ (16 * i) * Y + (Q6 X i).toNat * 2 ^ (16 * i) * (Y % 2 ^ (16 * k))) :
    (∀ j, 0 ≤ upd F (i + k) (F (i + k) + Q6 X i * Q6 Y k) j) ∧ (∀ j, upd F (i + k) (F (i + k) + Q6 X i * Q6 Y k) j ≤ ((B + 4294836225 : Nat) : Int)) ∧
    J03 (upd F (i + k) (F (i + k) + Q6 X i * Q6 Y k)) 32 = X % 2 ^ (16 * i) * Y + (Q6 X i).toNat * 2 ^ (16 * i) * (Y % 2 ^ (16 * (k + 1))) := by
  have r1 := X6 X i
  have r2 := X6 Y k
  have h0 := h (i + k)
  obtain ⟨x, hx⟩ := Int.eq_ofNat_of_zero_le r1.1
  have hy : Q6 Y k = ((Y / 2 ^ (16 * k) % 65536 : Nat) : Int) := rfl
  have D := Q1l F (i + k) (F (i + k) + Q6 X i * Q6 Y k) 32 (by omega)
  obtain ⟨f, hf⟩ := Int.eq_ofNat_of_zero_le h0
  have M : Y / 2 ^ (16 * k) % 65536 < 65536 := Nat.mod_lt _ (by decide)
  rw [J30 Y k]
  rw [hx] at hs r1 ⊢ D
  rw [hy] at r2 ⊢ D
  generalize Y / 2 ^ (16 * k) % 65536 = y at *
  have N : x * y ≤ 65535 * 65535 := Nat.mul_le_mul (by omega) (by omega)
  have G : (x : Int) * (y : Int) = ((x * y : Nat) : Int) := by rw [Int.natCast_mul]
  rw [G] at D ⊢
  have J := hB (i + k)
  rw [hf] at D ⊢
  refine ⟨fun j => ?_, fun j => ?_, ?_⟩
  · unfold upd; split
    · omega
    exact h j
  · unfold upd; split
    · omega
    have := hB j; omega
  rw [← Int.natCast_add] at D ⊢
  rw [hs] at D
  simp only [Int.toNat_natCast] at D ⊢
  rw [Nat.add_mul] at D
  rw [Nat.mul_add (x * 2 ^ (16 * i)), show x * 2 ^ (16 * i) * (y * 2 ^ (16 * k)) = x * y * 2 ^ (16 * (i + k)) by rw [show 16 * (i + k) = 16 * i + 16 * k by omega, Nat.pow_add, Nat.mul_mul_mul_comm]]
  omega

theorem J0h (X Y : Nat) (hX : X < Q5) (hY : Y < Q5) (w : World) :
  Calls Tryz.prog 112 #[A16 X, A16 Y] w fun e w' => K7 (A16 (X * Y % PP)) w w' e := by
 have HX := Lib.hid hX
 have HY := Lib.hid hY
 clear hX hY
 unfold A16
 go_enter Tryz.func112, Tryz.ntmps112
 go_wp2_with fail
 refine wn4 (c1 := (J0 .i64 16 (Q6 X))) (t1 := 124) (c2 := (J0 .i64 16 (Q6 Y))) (t2 := 124) (c3 := (J0 .i64 16 (fun _ => 0))) (t3 := 124) (c5 := (J0 .i64 32 (fun _ => 0))) (t5 := 225) fun W0 T M N J D => ?_
 have τ := Q2 M
 have ω := Q2 N
 have ξ := Q2 J
 have σ := Q2 D
 go_wp2_with fail
 go_loopw [6] (fun ii wr => ∃ (i : Nat) (F : Nat → Int), i ≤ 16 ∧ ii = .int .i64 i ∧ Hid ((∀ j, 0 ≤ F j) ∧ (∀ j, F j ≤ ((16 * i * 4294836225 : Nat) : Int)) ∧ J03 F 32 = X % 2 ^ (16 * i) * Y) ∧ Below w.heap.size w wr ∧ Blk wr w.heap.size (J0 .i64 16 (Q6 X)) 124 ∧ Blk wr (w.heap.size + 1) (J0 .i64 16 (Q6 Y)) 124 ∧ Blk wr (w.heap.size + 2) (J0 .i64 16 (fun _ => 0)) 124 ∧ Blk wr (w.heap.size + 3) (J0 .i64 32 F) 225)
  (fun ii _ => (16 - intOf ii).toNat)
 case atStart =>
  refine ⟨0, fun _ => 0, by omega, rfl, Lib.hid ⟨fun _ => Int.le_refl _, fun _ => by simp, by rw [Q3n, Nat.mul_zero, Nat.pow_zero, Nat.mod_one, Nat.zero_mul]⟩, T, M, N, J, D⟩
 case round =>
  obtain ⟨i, F, hi, rfl, HF, T, M, N, J, D⟩ := hrel
  by_cases S : i = 16
  ·
   have κ := S
   subst S
   go_upto_region 9 with fail
   have α := Q2 M
   have β := Q2 N
   have δ := Q2 J
   have γ := Q2 D
   refine Px1 0 8 (z := J0 .i64 16 (fun _ => 0)) (t := 124) ?_
   refine XN ?_
   intro μ W2 Ξ hE U
   have Ω := T.size
   refine J9 ?_
   have hF : Below w.heap.size w W2 ∧ Blk W2 w.heap.size (J0 .i64 16 (Q6 X)) 124 ∧ Blk W2 (w.heap.size + 1) (J0 .i64 16 (Q6 Y)) 124 ∧ Blk W2 (w.heap.size + 2) (J0 .i64 16 (fun _ => 0)) 124 ∧ Blk W2 (w.heap.size + 3) (J0 .i64 32 F) 225 ∧ Blk W2 μ (J0 .i64 16 (fun _ => 0)) 124 := ⟨(Y4 T hE T.size), (J2 M hE), (J2 N hE), (J2 J hE), (J2 D hE), U⟩
   clear T M N J D U
   obtain ⟨T, M, N, J, D, U⟩ := hF
   have φ := Q2 U
   go_wp2_with fail
   go_loopw [9] (fun ii wr => ∃ (k : Nat), k ≤ 16 ∧ ii = .int .i64 k ∧ Below w.heap.size w wr ∧ Blk wr w.heap.size (J0 .i64 16 (Q6 X)) 124 ∧ Blk wr (w.heap.size + 1) (J0 .i64 16 (Q6 Y)) 124 ∧ Blk wr (w.heap.size + 2) (J0 .i64 16 (fun _ => 0)) 124 ∧ Blk wr (w.heap.size + 3) (J0 .i64 32 F) 225 ∧ Blk wr μ (J0 .i64 16 (J4h k (J7c F) (fun _ => 0))) 124)
    (fun ii _ => (16 - intOf ii).toNat)
   case atStart =>
    refine ⟨0, by omega, rfl, T, M, N, J, D, ?_⟩
    rw [J2i]; exact U
   case round =>
    obtain ⟨k, hk, rfl, T, M, N, J, D, U⟩ := hrel
    by_cases S : k = 16
    ·
     have κ := S
     subst S
     rw [J3c] at U
     go_upto_region 14 with fail
     have χ := Q2 M
     have ψ := Q2 N
     have Δ := Q2 J
     have Γ := Q2 D
     have ρ := Q2 U
     have ε : okF (J7c F) := fun j => by have u := HF.out.1 j; have v := HF.out.2.1 j; have u2 := HF.out.1 (j + 16); have v2 := HF.out.2.1 (j + 16); unfold J7c; omega
     have η := Q12 (J7c F) ε
     rw [Q90 F HF.out.1, HF.out.2.2, show X % 2 ^ (16 * 16) = X by rw [show (2 : Nat) ^ (16 * 16) = Q5 by decide]; exact Nat.mod_eq_of_lt HX.out] at η
     obtain ⟨R, hR⟩ := V3 (X * Y % PP)
     rw [← hR] at η
     have HR := Lib.hid hR
     clear hR
     refine Px 2 ?_
     refine XL ?_
     refine Xf ?_ (fun W hW => η W)
     refine V7 fun W4 hE => ?_
     refine Lp ?_ (J2 J hE) (cells := J0 .i64 16 (Q6 R)) (h1 := (Z9 _ _ _))
     intro W5 hO h_
     refine J9 ?_
     replace M := ko M hE hO (by omega)
     replace N := ko N hE hO (by omega)
     replace J := h_
     replace D := ko D hE hO (by omega)
     replace U := ko U hE hO (by omega)
     replace T := bwo T hE hO T.size (by omega)
     clear hO h_
     go_wp2
     refine bodyPost_ret (Z6 rfl rfl J (by kernel_rfl) (by kernel_rfl)) rfl ⟨?_, T⟩
     (rw [← HR.out] <;> rfl)
    have Z : k < 16 := by omega
    have hk3' : (k : Int) < 16 := by omega
    clear S
    have c0 := (J7 D k).trans (J3 _ _ _ _ (by omega))
    have c1 := (J7 D (k + 16)).trans (J3 _ _ _ _ (by omega))
    have c2 := (J7 U k).trans (J3 _ _ _ _ Z)
    rw [J4i] at c2
    have f0 := V2 U
    obtain ⟨u0, u1⟩ := And.intro (HF.out.1 k) (HF.out.2.1 k)
    obtain ⟨v0, v1⟩ := And.intro (HF.out.1 (k + 16)) (HF.out.2.1 (k + 16))
    have w0 : IntKind.i64.wrap ((k : Int) + 16) = ((k + 16 : Nat) : Int) := by rw [IntWalk.i64_in _ (by omega)]; omega
    have w1 : IntKind.i64.wrap (38 * F (k + 16)) = 38 * F (k + 16) := IntWalk.i64_in _ (by omega)
    have w2 : IntKind.i64.wrap (F k + 38 * F (k + 16)) = F k + 38 * F (k + 16) := IntWalk.i64_in _ (by omega)
    clear u0 u1 v0 v1 w0
    have D1 : (k : Int) < 32 := by omega
    have D0 : (k : Int) + 16 < 32 := by omega
    go_wp2
    go_region
    go_wp2
    have hs := Z8 U k (.int .i64 (J7c F k))
    rw [J2p] at hs
    go_roundw
    case rel =>
     refine ⟨k + 1, by omega, ?_, (Z4 T (by omega) _ _).drew, Y6 (J6 M (by omega) _ _), Y6 (J6 N (by omega) _ _), Y6 (J6 J (by omega) _ _), Y6 (J6 D (by omega) _ _), ?_⟩
     ·
      (first | rfl | go_num)
     exact Y6 hs
    case measure => simp [intOf]; omega
  have θ : i < 16 := by omega
  have hi3' : (i : Int) < 16 := by omega
  clear S
  have α := Q2 M
  have β := Q2 N
  have δ := Q2 J
  have γ := Q2 D
  go_wp2_with fail
  go_loopw [7] (fun kk wr => ∃ (k : Nat) (G : Nat → Int), k ≤ 16 ∧ kk = .int .i64 k ∧ Hid ((∀ j, 0 ≤ G j) ∧ (∀ j, G j ≤ (((16 * i + k) * 4294836225 : Nat) : Int)) ∧ J03 G 32 = X % 2 ^ (16 * i) * Y + (Q6 X i).toNat * 2 ^ (16 * i) * (Y % 2 ^ (16 * k))) ∧ Below w.heap.size w wr ∧ Blk wr w.heap.size (J0 .i64 16 (Q6 X)) 124 ∧ Blk wr (w.heap.size + 1) (J0 .i64 16 (Q6 Y)) 124 ∧ Blk wr (w.heap.size + 2) (J0 .i64 16 (fun _ => 0)) 124 ∧ Blk wr (w.heap.size + 3) (J0 .i64 32 G) 225)
   (fun kk _ => (16 - intOf kk).toNat)
  case atStart =>
   refine ⟨0, F, by omega, rfl, Lib.hid ⟨HF.out.1, HF.out.2.1, by rw [HF.out.2.2, Nat.mul_zero 16, Nat.pow_zero, Nat.mod_one, Nat.mul_zero, Nat.add_zero]⟩, T, M, N, J, D⟩
  case round =>
   obtain ⟨k, G, hk, rfl, HG, T, M, N, J, D⟩ := hrel
   by_cases S : k = 16
   ·
    have κ := S
    subst S
    go_wp2_with fail
    go_roundw
    case rel =>
     refine ⟨i + 1, G, by omega, by go_num, Lib.hid ⟨HG.out.1, ?_, ?_⟩, T, M, N, J, D⟩
     ·
      rw [show 16 * (i + 1) * 4294836225 = (16 * i + 16) * 4294836225 by omega]; exact HG.out.2.1
     have h := HG.out.2.2
     rw [show Y % 2 ^ (16 * 16) = Y by rw [show (2 : Nat) ^ (16 * 16) = Q5 by decide]; exact Nat.mod_eq_of_lt HY.out] at h
     rw [h, J30 X i, Nat.add_mul]; rfl
    case measure => simp [intOf]; omega
   have Z : k < 16 := by omega
   have hk3' : (k : Int) < 16 := by omega
   clear S
   obtain ⟨m, hm⟩ := V3 (i + k)
   have V := Z33 G HG.out.1 X Y i k θ Z _ HG.out.2.1 HG.out.2.2
   have Ψ := HG.out.1 m
   have Θ := HG.out.2.1 m
   have lx := X6 X i
   have ly := X6 Y k
   have hp : 0 ≤ Q6 X i * Q6 Y k ∧ Q6 X i * Q6 Y k ≤ 4294836225 := ⟨Int.mul_nonneg lx.1 ly.1, by have := Int.mul_le_mul lx.2 ly.2 ly.1 (by omega); omega⟩
   rw [← hm] at V
   have ν : m < 32 := by omega
   have hm32' : (m : Int) < 32 := by omega
   have w0 : IntKind.i64.wrap ((i : Int) + (k : Int)) = (m : Int) := by rw [IntWalk.i64_in _ (by omega)]; omega
   have c0 := (J7 D m).trans (J3 _ _ _ _ ν)
   have c1 := (J7 M i).trans (J3 _ _ _ _ θ)
   have c2 := (J7 N k).trans (J3 _ _ _ _ Z)
   have f0 := V2 D
   obtain ⟨p, ζ⟩ := V3 (Q6 X i * Q6 Y k)
   rw [← ζ] at V hp
   have w1 : IntKind.i64.wrap (Q6 X i * Q6 Y k) = p := by rw [← ζ]; exact IntWalk.i64_in _ (by omega)
   have w2 : IntKind.i64.wrap (G m + p) = G m + p := IntWalk.i64_in _ (by omega)
   have HC := Lib.hid V
   clear V ζ lx ly Ψ Θ hp hm
   go_wp2
   go_region
   go_wp2
   have hs := Z8 D m (.int .i64 (G m + p))
   rw [V4] at hs
   go_roundw
   case rel =>
    refine ⟨k + 1, _, by omega, ?_, ?_, (Z4 T (by omega) _ _).drew, Y6 (J6 M (by omega) _ _), Y6 (J6 N (by omega) _ _), Y6 (J6 J (by omega) _ _), Y6 hs⟩
    ·
     (first | rfl | go_num)
    refine Lib.hid ⟨HC.out.1, ?_, HC.out.2.2⟩
    rw [show (16 * i + (k + 1)) * 4294836225 = (16 * i + k) * 4294836225 + 4294836225 by omega]; exact HC.out.2.1
   case measure => simp [intOf]; omega
end
end Go.Proofs.YtejkmhgkkibafaaGreatDoor.S8
