/- Contracts and plain laws that superChecks_holds rests on. Conditions: the variables' cells hold the numbers of the program's text. -/
import Derived.Test.YtejkmhgkkibafaaGreatDoorGc
import Derived.Test.YtejkmhgkkibafaaGreatDoorJ6
import Derived.Test.YtejkmhgkkibafaaGreatDoorJ3
import Derived.Test.YtejkmhgkkibafaaGreatDoorJ8
import Derived.Test.YtejkmhgkkibafaaGreatDoorGa
import Derived.Test.YtejkmhgkkibafaaGreatDoorGb
import Derived.Test.YtejkmhgkkibafaaGreatDoorS8Ea
open Go.RowKit
set_option maxRecDepth 100000
set_option linter.unusedSimpArgs false
set_option linter.unusedVariables false
namespace Go.Proofs.YtejkmhgkkibafaaGreatDoor.S8
section
set_option maxHeartbeats 4000000

theorem Z6o (f : Nat → Int) (hf : okF f) (w : World) :
  Calls Tryz.prog 174 #[.agg (J0 .i64 16 f)] w fun e w' => K6 (.agg (J0 .i64 16 (Q5 (cr (cr (J0c f 16)))))) w w' e := by
 go_enter Tryz.func174, Tryz.ntmps174
 go_wp2_with fail
 refine wn2 (c1 := (J0 .i64 16 (f))) (t1 := 124) (c2 := (J0 .i64 16 (fun _ => 0))) (t2 := 124) fun W0 J Y4 D => ?_
 have U := J6 Y4
 have T := J6 D
 have HF := Lib.hid hf
 clear hf
 go_wp2_with fail
 go_loopw [3] (fun tt wr => ∃ (t : Nat) (fr : Nat → Int), t ≤ 3 ∧ tt = .int .i64 t ∧ fr = Q8w f t ∧ Below w.heap.size w wr ∧ Blk wr w.heap.size (J0 .i64 16 fr) 124 ∧ Blk wr (w.heap.size + 1) (J0 .i64 16 (fun _ => 0)) 124)
  (fun tt _ => (3 - intOf tt).toNat)
 case atStart =>
  exact ⟨0, f, by omega, rfl, rfl, J, Y4, D⟩
 case round =>
  obtain ⟨t, fr, ht, rfl, R, J, Y4, D⟩ := hrel
  have hfr' := Z0m f HF.out t
  rw [← R] at hfr'
  have HR := Lib.hid hfr'
  have HE := Lib.hid R
  clear hfr' R
  by_cases G : t = 3
  ·
   have V := G
   subst G
   go_upto_region 12 with fail
   have N := J6 Y4
   have M := J6 D
   refine Px 1 ?_
   refine XL ?_
   refine Z7 fun W2 hE => ?_
   refine Lp ?_ (J1 D hE) (cells := J0 .i64 16 (fr)) (h1 := (Z0 _ _ _))
   intro W3 hO h_
   refine J9 ?_
   replace Y4 := ko Y4 hE hO (by omega)
   replace D := h_
   replace J := bwo J hE hO J.size (by omega)
   clear hO h_
   go_wp2
   refine bodyPost_ret (Y3 rfl rfl D (by kernel_rfl) (by kernel_rfl)) rfl ⟨?_, J⟩
   rw [HE.out, Y9v f HF.out]
  have X : t < 3 := by omega
  clear G
  have N := J6 Y4
  have M := J6 D
  obtain ⟨wo, rfl⟩ : ∃ wo : World, wo = wr := ⟨_, rfl⟩
  go_wp2_with fail
  go_loopw [4, 5] (fun oo ii wr => ∃ (k : Nat), k ≤ 16 ∧ ii = .int .i64 k ∧ oo = .int .i64 (ovr fr k : Int) ∧ Below w.heap.size w wr ∧ Blk wr w.heap.size (J0 .i64 16 (J4r k (Q5 (J0c fr 16)) fr)) 124 ∧ Blk wr (w.heap.size + 1) (J0 .i64 16 (fun _ => 0)) 124)
   (fun oo ii _ => (16 - intOf ii).toNat)
  case atStart =>
   rw [← J2q (Q5 (J0c fr 16)) fr] at Y4
   refine ⟨0, by omega, rfl, ?_, J, Y4, D⟩
   rw [Q6t]; rfl
  case round =>
   obtain ⟨k, hk, rfl, rfl, J, Y4, D⟩ := hrel
   by_cases G : k = 16
   ·
    have V := G
    subst G
    rw [J3n] at Y4
    have c0 := (Q0 Y4 0).trans (J4 _ _ _ _ (by omega))
    have f0 := V5 Y4
    have b1 := J03 (J0c fr 16) 0
    have b2 := Q1y fr 1125899906842624 (fun j => (HR.out j).2) 16
    go_wp2
    have hs := Y5 Y4 0 (.int .i64 (Q5 (J0c fr 16) 0 + 38 * (ovr fr 16 : Int)))
    rw [V6] at hs
    go_roundw
    case rel =>
     exact ⟨t + 1, nxt fr, by omega, by go_num, by rw [HE.out]; rfl, Z9 J (by omega) _ _, hs, J8 D (by omega) _ _⟩
    case measure => simp [intOf]; omega
   have S : k < 16 := by omega
   have hk3' : (k : Int) < 16 := by omega
   clear G
   obtain ⟨s1, s2⟩ := Z30 fr HR.out k S
   have c0 := (Q0 Y4 k).trans (J4 _ _ _ _ S)
   rw [J4s] at c0
   have f0 := V5 Y4
   obtain ⟨l0, l1⟩ := HR.out k
   have l2 := Q1y fr 1125899906842624 (fun j => (HR.out j).2) k
   go_wp2
   have hs := Y5 Y4 k (.int .i64 (Q5 (J0c fr 16) k))
   rw [J2y] at hs
   go_roundw
   case rel => exact ⟨k + 1, by omega, by go_num, rfl, Z9 J (by omega) _ _, hs, J8 D (by omega) _ _⟩
   case measure => simp [intOf]; omega
end

section
set_option maxHeartbeats 4000000

theorem J4g (X Y k : Nat) (h : Y ≤ X) :
    (J19 X Y (k + 1) = 0 ∧ Q5 X k - Q5 Y k - (J19 X Y k : Int) = Q5 (X - Y) k) ∨
     (J19 X Y (k + 1) = 1 ∧ Q5 X k - Q5 Y k - (J19 X Y k : Int) < 0 ∧ Q5 X k - Q5 Y k - (J19 X Y k : Int) + 65536 = Q5 (X - Y) k) := by
  have r1 := J03 X k
  have r2 := J03 Y k
  have r3 := J4y X Y k
  have r4 := J03 (X - Y) k
  have r5 := J4y X Y (k + 1)
  have hs := Q1u X Y k h
  rcases Nat.lt_or_ge (J19 X Y (k + 1)) 1 with h0 | h1
  · rw [show J19 X Y (k + 1) = 0 by omega] at hs ⊢; exact .inl ⟨rfl, by omega⟩
  rw [show J19 X Y (k + 1) = 1 by omega] at hs ⊢; exact .inr ⟨rfl, by omega, by omega⟩
theorem Q9a : ∀ k, k < 16 → Q5 PP k = if k = 0 then 65517 else if k = 15 then 32767 else 65535 := by
  intro k hk
  have : k = 0 ∨ k = 1 ∨ k = 2 ∨ k = 3 ∨ k = 4 ∨ k = 5 ∨ k = 6 ∨ k = 7 ∨ k = 8 ∨ k = 9 ∨ k = 10 ∨ k = 11 ∨ k = 12 ∨ k = 13 ∨ k = 14 ∨ k = 15 := by omega
  rcases this with rfl | rfl | rfl | rfl | rfl | rfl | rfl | rfl | rfl | rfl | rfl | rfl | rfl | rfl | rfl | rfl <;> decide +kernel
theorem Q2q (N k : Nat) (hk : k < 16) : Q5 (N + Q7) k = Q5 N k := by
  unfold Q5
  obtain ⟨d, hd⟩ : ∃ d, Q7 = 2 ^ (16 * k) * (65536 * 2 ^ d) := ⟨16 * (15 - k), by
    rw [show (65536 : Nat) = 2 ^ 16 by decide, ← Nat.pow_add, ← Nat.pow_add, show 16 * k + (16 + 16 * (15 - k)) = 256 by omega]; decide⟩
  rw [hd, Nat.add_mul_div_left _ _ (Nat.two_pow_pos _), Nat.add_mul_mod_self_left]
theorem Z1c (N : Nat) (hN : N < Q7) : J19 (N + Q7) PP 16 = if N < PP then 1 else 0 := by
  unfold J19
  rw [show (2 : Nat) ^ (16 * 16) = Q7 by decide, Nat.add_mod_right, Nat.mod_eq_of_lt hN, Nat.mod_eq_of_lt J68]
theorem Y1a (N : Nat) (hN : N < Q7) (h : ¬ N < PP) : J0 .i64 16 (Q5 (N + Q7 - PP)) = J0 .i64 16 (Q5 (N - PP)) := by
  apply K8
  intro j hj
  rw [show N + Q7 - PP = (N - PP) + Q7 by omega, Q2q _ _ hj]
theorem Z6p (V : Nat) : cr V % PP = V % PP := by
  unfold cr
  have hd := Nat.div_add_mod V Q7
  conv => rhs; rw [← hd]
  rw [show Q7 = 2 * PP + 38 from PP_two.symm, show (2 * PP + 38) * (V / (2 * PP + 38)) + V % (2 * PP + 38) = V % (2 * PP + 38) + 38 * (V / (2 * PP + 38)) + PP * (2 * (V / (2 * PP + 38))) by rw [Nat.add_mul, Nat.mul_left_comm PP, Nat.mul_assoc]; omega, Nat.add_mul_mod_self_left]

theorem Q1c (f : Nat → Int) (hf : okF f) (w : World) :
  Calls Tryz.prog 155 #[.agg (J0 .i64 16 f)] w fun e w' => K6 (A16 (J0c f 16 % PP)) w w' e := by
 go_enter Tryz.func155, Tryz.ntmps155
 go_upto_region 1 with fail
 refine wn2 (c1 := (J0 .i64 16 (f))) (t1 := 124) (c2 := (J0 .i64 16 (fun _ => 0))) (t2 := 124) fun W0 R Y4 J => ?_
 have Δ := J6 Y4
 have Γ := J6 J
 have σ := Z6o f hf
 obtain ⟨W, hW⟩ := V0 (cr (cr (J0c f 16)))
 rw [← hW] at σ
 have bW : W < Q7 := by rw [hW]; exact Q6v _ (Q4q f hf 16)
 have HW := Lib.hid hW
 have BW := Lib.hid bW
 clear hW bW
 refine Px 2 ?_
 refine XL ?_
 refine Xf ?_ (fun W hW => σ W)
 refine Z7 fun W1 hE => ?_
 refine LS ?_ (J1 Y4 hE) (g := w.heap.size) (cells := J0 .i64 16 (Q5 W)) (h1 := (Z0 _ _ _))
 refine J9 ?_
 have hF : Below w.heap.size w (W1.setRow w.heap.size (J0 .i64 16 (Q5 W))) ∧ Blk (W1.setRow w.heap.size (J0 .i64 16 (Q5 W))) w.heap.size (J0 .i64 16 (Q5 W)) 124 ∧ Blk (W1.setRow w.heap.size (J0 .i64 16 (Q5 W))) (w.heap.size + 1) (J0 .i64 16 (fun _ => 0)) 124 := ⟨(Z6 (Q9 R hE R.size) (by omega) _), (Y6 (J1 Y4 hE) (J0 .i64 16 (Q5 W))), (J3 (J1 J hE) (by omega) _)⟩
 generalize (W1.setRow w.heap.size (J0 .i64 16 (Q5 W))) = W2 at hF ⊢
 clear R Y4 J
 obtain ⟨R, Y4, J⟩ := hF
 have ω := J6 Y4
 have ψ := J6 J
 go_wp2_with fail
 go_loopw [3] (fun tt wr => ∃ (t N : Nat), t ≤ 3 ∧ tt = .int .i64 t ∧ N + t * PP = W ∧ Below w.heap.size w wr ∧ Blk wr w.heap.size (J0 .i64 16 (Q5 N)) 124 ∧ Blk wr (w.heap.size + 1) (J0 .i64 16 (fun _ => 0)) 124)
  (fun tt _ => (3 - intOf tt).toNat)
 case atStart =>
  exact ⟨0, W, by omega, rfl, by omega, R, Y4, J⟩
 case round =>
  obtain ⟨t, N, ht, rfl, hN, R, Y4, J⟩ := hrel
  have bN : N < Q7 := by have := BW.out; omega
  have HN := Lib.hid hN
  have BN := Lib.hid bN
  clear hN bN
  obtain ⟨M, hM⟩ := V0 (N + Q7)
  obtain ⟨D, hD⟩ := V0 (N + Q7 - PP)
  have HM := Lib.hid hM
  have ν := Lib.hid hD
  clear hM hD
  by_cases U : t = 3
  ·
   have τ := U
   exfalso
   have := HN.out
   have := BW.out
   subst U
   unfold Q7 PP at *; omega
  have Θ : t < 3 := by omega
  clear U
  by_cases δ : N < PP
  ·
   have HL := Lib.hid δ
   clear δ
   go_upto_region 5 with fail
   have θ := J6 Y4
   have η := J6 J
   refine Px1 1 4 (z := J0 .i64 16 (fun _ => 0)) (t := 124) ?_
   refine XL ?_
   refine XN ?_
   intro V W4 ρ hE G
   have φ := R.size
   refine Lp ?_ G (cells := J0 .i64 16 (Q5 N)) (h1 := (Z0 _ _ _))
   intro W5 hO h_
   refine J9 ?_
   replace Y4 := ko Y4 hE hO (by omega)
   replace J := ko J hE hO (by omega)
   replace G := h_
   replace R := bwo R hE hO R.size (by omega)
   clear hO h_
   have c0 := (Q0 G 0).trans (J4 _ _ _ _ (by omega))
   have f0 := V5 G
   have lb := J03 N 0
   go_wp2_with fail
   have hs := Y5 G 0 (.int .i64 (Q5 N 0 - 65517))
   rw [V6] at hs
   have hF := And.intro (Z9 R (show w.heap.size ≤ V by omega) 0 (.int .i64 (Q5 N 0 - 65517))) (And.intro (J8 Y4 (show w.heap.size ≠ V by omega) 0 (.int .i64 (Q5 N 0 - 65517))) (And.intro (J8 J (show w.heap.size + 1 ≠ V by omega) 0 (.int .i64 (Q5 N 0 - 65517))) hs))
   generalize W5.setCell ⟨V, 0, none⟩ (.int .i64 (Q5 N 0 - 65517)) = Wm at hF ⊢
   clear R Y4 J G c0 f0 lb hs
   obtain ⟨R, Y4, J, G⟩ := hF
   have μ := J6 G
   go_wp2_with fail
   go_loopw [5, 6] (fun oo ii wr => ∃ (k : Nat), k ≤ 16 ∧ ii = .int .i64 k ∧ oo = .int .i64 (J19 M PP k : Int) ∧ Below w.heap.size w wr ∧ Blk wr w.heap.size (J0 .i64 16 (Q5 N)) 124 ∧ Blk wr (w.heap.size + 1) (J0 .i64 16 (fun _ => 0)) 124 ∧ Blk wr V (J0 .i64 16 (J4r k (Q5 D) (upd (Q5 N) 0 (Q5 N 0 - 65517)))) 124)
    (fun oo ii _ => (16 - intOf ii).toNat)
   case atStart =>
    refine ⟨0, by omega, rfl, by rw [J6h]; rfl, R, Y4, J, ?_⟩
    rw [J2q]
    exact G
   case round =>
    obtain ⟨k, hk, rfl, rfl, R, Y4, J, G⟩ := hrel
    by_cases U : k = 16
    ·
     have τ := U
     subst U
     rw [J3n] at G
     have X := Z1c N BN.out
     rw [← HM.out] at X
     (first | rw [if_pos HL.out] at X | rw [if_neg HL.out] at X)
     rw [X]
     clear X
     go_upto_region 21 with fail
     have ε := J6 Y4
     have ζ := J6 J
     have κ := J6 G
     refine Px 1 ?_
     refine XL ?_
     refine Z7 fun W7 hE => ?_
     refine Lp ?_ (J1 J hE) (cells := J0 .i64 16 (Q5 N)) (h1 := (Z0 _ _ _))
     intro W8 hO h_
     refine J9 ?_
     replace Y4 := ko Y4 hE hO (by omega)
     replace J := h_
     replace G := ko G hE hO (by omega)
     replace R := bwo R hE hO R.size (by omega)
     clear hO h_
     go_wp2
     refine bodyPost_ret (Y3 rfl rfl J (by kernel_rfl) (by kernel_rfl)) rfl ⟨?_, R⟩
     rw [show J0c f 16 % PP = N by rw [← Z6p (J0c f 16), ← Z6p (cr (J0c f 16)), ← HW.out, ← HN.out, Nat.add_mul_mod_self_right, Nat.mod_eq_of_lt HL.out]]; rfl
    have β : k < 16 := by omega
    have hk3' : (k : Int) < 16 := by omega
    clear U
    have S := J4g M PP k (by rw [HM.out]; unfold Q7 PP; omega)
    rw [show M - PP = D by rw [HM.out, ν.out], show Q5 M k = Q5 N k by rw [HM.out, Q2q N k β], Q9a k β] at S
    have c0 := (Q0 G k).trans (J4 _ _ _ _ β)
    rw [J4s] at c0
    have f0 := V5 G
    have lb := J03 N k
    have bb := J4y M PP k
    have α : ∀ v, v = Q5 D k → (J0 .i64 16 (J4r k (Q5 D) (upd (Q5 N) 0 (Q5 N 0 - 65517)))).setIfInBounds k (.int .i64 v) = J0 .i64 16 (J4r (k + 1) (Q5 D) (upd (Q5 N) 0 (Q5 N 0 - 65517))) := fun v hv => by rw [hv]; exact J2y _ _ _ _ _
    have HS := Lib.hid α
    clear α
    obtain ⟨bo, γ⟩ := V0 (J19 M PP k)
    rw [← γ] at S bb ⊢
    clear γ
    by_cases e0 : k = 0
    ·
     subst e0
     rw [if_pos rfl] at S
     have hu : upd (Q5 N) 0 (Q5 N 0 - 65517) 0 = Q5 N 0 - 65517 := J1z _ _ _
     rw [hu] at c0
     clear hu
     obtain ⟨x, hx⟩ := V0 (Q5 N 0)
     obtain ⟨d, T⟩ := V0 (Q5 D 0)
     have lD := J03 D 0
     rw [← hx] at c0 S lb
     rw [← T] at S lD
     have HD := Lib.hid T
     clear hx T
     rcases S with ⟨h1, h2⟩ | ⟨h1, h2, h3⟩
     ·
      have Y : ¬ x - 65517 - (bo : Int) < 0 := by omega
      have H1 := Lib.hid h1
      have H2 := Lib.hid h2
      clear h1 h2 lD
      go_wp2
      have h1 := H1.out
      go_roundw
      case rel =>
       have hs := (Y5 G 0 (.int .i64 (x - 65517 - (bo : Int))))
       rw [HS.out (x - 65517 - (bo : Int)) (H2.out.trans HD.out)] at hs
       refine ⟨0 + 1, by omega, ?_, ?_, ?_, ?_, ?_, hs⟩
       ·
        go_num
       ·
        rw [h1]; rfl
       ·
        exact (Z9 R (by omega) _ _)
       ·
        exact (J8 Y4 (by omega) _ _)
       exact (J8 J (by omega) _ _)
      case measure => simp [intOf] <;> omega
     have H1 := Lib.hid h1
     have H2 := Lib.hid h3
     clear h1 h3 lD
     go_wp2
     have h1 := H1.out
     go_roundw
     case rel =>
      have hs := (Y5 (Y5 G 0 (.int .i64 (x - 65517 - (bo : Int)))) 0 (.int .i64 (x - 65517 - (bo : Int) + 65536)))
      simp only [Array.setIfInBounds_setIfInBounds] at hs
      rw [HS.out (x - 65517 - (bo : Int) + 65536) (H2.out.trans HD.out)] at hs
      refine ⟨0 + 1, by omega, ?_, ?_, ?_, ?_, ?_, hs⟩
      ·
       go_num
      ·
       rw [h1]; rfl
      ·
       exact (Z9 (Z9 R (by omega) _ _) (by omega) _ _)
      ·
       exact (J8 (J8 Y4 (by omega) _ _) (by omega) _ _)
      exact (J8 (J8 J (by omega) _ _) (by omega) _ _)
     case measure => simp [intOf] <;> omega
    rw [if_neg e0] at S
    rw [J0i _ _ _ _ e0] at c0
    by_cases Z : k = 15
    ·
     subst Z
     rw [if_pos rfl] at S
     clear e0
     obtain ⟨x, hx⟩ := V0 (Q5 N 15)
     obtain ⟨d, T⟩ := V0 (Q5 D 15)
     have lD := J03 D 15
     rw [← hx] at c0 S lb
     rw [← T] at S lD
     have HD := Lib.hid T
     clear hx T
     rcases S with ⟨h1, h2⟩ | ⟨h1, h2, h3⟩
     ·
      have Y : ¬ x - 32767 - (bo : Int) < 0 := by omega
      have H1 := Lib.hid h1
      have H2 := Lib.hid h2
      clear h1 h2 lD
      go_wp2
      have h1 := H1.out
      go_roundw
      case rel =>
       have hs := (Y5 (Y5 G 15 (.int .i64 (x - 32767))) 15 (.int .i64 (x - 32767 - (bo : Int))))
       simp only [Array.setIfInBounds_setIfInBounds] at hs
       rw [HS.out (x - 32767 - (bo : Int)) (H2.out.trans HD.out)] at hs
       refine ⟨15 + 1, by omega, ?_, ?_, ?_, ?_, ?_, hs⟩
       ·
        go_num
       ·
        rw [h1]; rfl
       ·
        exact (Z9 (Z9 R (by omega) _ _) (by omega) _ _)
       ·
        exact (J8 (J8 Y4 (by omega) _ _) (by omega) _ _)
       exact (J8 (J8 J (by omega) _ _) (by omega) _ _)
      case measure => simp [intOf] <;> omega
     have H1 := Lib.hid h1
     have H2 := Lib.hid h3
     clear h1 h3 lD
     go_wp2
     have h1 := H1.out
     go_roundw
     case rel =>
      have hs := (Y5 (Y5 (Y5 G 15 (.int .i64 (x - 32767))) 15 (.int .i64 (x - 32767 - (bo : Int)))) 15 (.int .i64 (x - 32767 - (bo : Int) + 65536)))
      simp only [Array.setIfInBounds_setIfInBounds] at hs
      rw [HS.out (x - 32767 - (bo : Int) + 65536) (H2.out.trans HD.out)] at hs
      refine ⟨15 + 1, by omega, ?_, ?_, ?_, ?_, ?_, hs⟩
      ·
       go_num
      ·
       rw [h1]; rfl
      ·
       exact (Z9 (Z9 (Z9 R (by omega) _ _) (by omega) _ _) (by omega) _ _)
      ·
       exact (J8 (J8 (J8 Y4 (by omega) _ _) (by omega) _ _) (by omega) _ _)
      exact (J8 (J8 (J8 J (by omega) _ _) (by omega) _ _) (by omega) _ _)
     case measure => simp [intOf] <;> omega
    rw [if_neg Z] at S
    have p0 : (0 : Int) < (k : Int) := by omega
    have ξ : (k : Int) < 15 := by omega
    have χ : ((k : Int) == 15) = false := by rw [beq_eq_false_iff_ne]; omega
    have g1 : decide ((0 : Int) < (k : Int)) = true := decide_eq_true p0
    have g2 : decide ((k : Int) < 15) = true := decide_eq_true ξ
    have g3 : 0 < k := by omega
    have g4 : decide (0 < k) = true := decide_eq_true g3
    have g5 : k < 15 := by omega
    have g6 : decide (k < 15) = true := decide_eq_true g5
    have g7 : (k == 15) = false := by rw [beq_eq_false_iff_ne]; omega
    clear e0 Z
    obtain ⟨x, hx⟩ := V0 (Q5 N k)
    obtain ⟨d, T⟩ := V0 (Q5 D k)
    have lD := J03 D k
    rw [← hx] at c0 S lb
    rw [← T] at S lD
    have HD := Lib.hid T
    clear hx T
    rcases S with ⟨h1, h2⟩ | ⟨h1, h2, h3⟩
    ·
     have Y : ¬ x - 65535 - (bo : Int) < 0 := by omega
     have H1 := Lib.hid h1
     have H2 := Lib.hid h2
     clear h1 h2 lD
     go_wp2
     have h1 := H1.out
     go_roundw
     case rel =>
      have hs := (Y5 (Y5 G k (.int .i64 (x - 65535))) k (.int .i64 (x - 65535 - (bo : Int))))
      simp only [Array.setIfInBounds_setIfInBounds] at hs
      rw [HS.out (x - 65535 - (bo : Int)) (H2.out.trans HD.out)] at hs
      refine ⟨k + 1, by omega, ?_, ?_, ?_, ?_, ?_, hs⟩
      ·
       go_num
      ·
       rw [h1]; rfl
      ·
       exact (Z9 (Z9 R (by omega) _ _) (by omega) _ _)
      ·
       exact (J8 (J8 Y4 (by omega) _ _) (by omega) _ _)
      exact (J8 (J8 J (by omega) _ _) (by omega) _ _)
     case measure => simp [intOf] <;> omega
    have H1 := Lib.hid h1
    have H2 := Lib.hid h3
    clear h1 h3 lD
    go_wp2
    have h1 := H1.out
    go_roundw
    case rel =>
     have hs := (Y5 (Y5 (Y5 G k (.int .i64 (x - 65535))) k (.int .i64 (x - 65535 - (bo : Int)))) k (.int .i64 (x - 65535 - (bo : Int) + 65536)))
     simp only [Array.setIfInBounds_setIfInBounds] at hs
     rw [HS.out (x - 65535 - (bo : Int) + 65536) (H2.out.trans HD.out)] at hs
     refine ⟨k + 1, by omega, ?_, ?_, ?_, ?_, ?_, hs⟩
     ·
      go_num
     ·
      rw [h1]; rfl
     ·
      exact (Z9 (Z9 (Z9 R (by omega) _ _) (by omega) _ _) (by omega) _ _)
     ·
      exact (J8 (J8 (J8 Y4 (by omega) _ _) (by omega) _ _) (by omega) _ _)
     exact (J8 (J8 (J8 J (by omega) _ _) (by omega) _ _) (by omega) _ _)
    case measure => simp [intOf] <;> omega
  have HL := Lib.hid δ
  clear δ
  go_upto_region 5 with fail
  have θ := J6 Y4
  have η := J6 J
  refine Px1 1 4 (z := J0 .i64 16 (fun _ => 0)) (t := 124) ?_
  refine XL ?_
  refine XN ?_
  intro V W4 ρ hE G
  have φ := R.size
  refine Lp ?_ G (cells := J0 .i64 16 (Q5 N)) (h1 := (Z0 _ _ _))
  intro W5 hO h_
  refine J9 ?_
  replace Y4 := ko Y4 hE hO (by omega)
  replace J := ko J hE hO (by omega)
  replace G := h_
  replace R := bwo R hE hO R.size (by omega)
  clear hO h_
  have c0 := (Q0 G 0).trans (J4 _ _ _ _ (by omega))
  have f0 := V5 G
  have lb := J03 N 0
  go_wp2_with fail
  have hs := Y5 G 0 (.int .i64 (Q5 N 0 - 65517))
  rw [V6] at hs
  have hF := And.intro (Z9 R (show w.heap.size ≤ V by omega) 0 (.int .i64 (Q5 N 0 - 65517))) (And.intro (J8 Y4 (show w.heap.size ≠ V by omega) 0 (.int .i64 (Q5 N 0 - 65517))) (And.intro (J8 J (show w.heap.size + 1 ≠ V by omega) 0 (.int .i64 (Q5 N 0 - 65517))) hs))
  generalize W5.setCell ⟨V, 0, none⟩ (.int .i64 (Q5 N 0 - 65517)) = Wm at hF ⊢
  clear R Y4 J G c0 f0 lb hs
  obtain ⟨R, Y4, J, G⟩ := hF
  have μ := J6 G
  go_wp2_with fail
  go_loopw [5, 6] (fun oo ii wr => ∃ (k : Nat), k ≤ 16 ∧ ii = .int .i64 k ∧ oo = .int .i64 (J19 M PP k : Int) ∧ Below w.heap.size w wr ∧ Blk wr w.heap.size (J0 .i64 16 (Q5 N)) 124 ∧ Blk wr (w.heap.size + 1) (J0 .i64 16 (fun _ => 0)) 124 ∧ Blk wr V (J0 .i64 16 (J4r k (Q5 D) (upd (Q5 N) 0 (Q5 N 0 - 65517)))) 124)
   (fun oo ii _ => (16 - intOf ii).toNat)
  case atStart =>
   refine ⟨0, by omega, rfl, by rw [J6h]; rfl, R, Y4, J, ?_⟩
   rw [J2q]
   exact G
  case round =>
   obtain ⟨k, hk, rfl, rfl, R, Y4, J, G⟩ := hrel
   by_cases U : k = 16
   ·
    have τ := U
    subst U
    rw [J3n] at G
    have X := Z1c N BN.out
    rw [← HM.out] at X
    (first | rw [if_pos HL.out] at X | rw [if_neg HL.out] at X)
    rw [X]
    clear X
    go_upto_region 22 with fail
    have ε := J6 Y4
    have ζ := J6 J
    have κ := J6 G
    refine Px 1 ?_
    refine XL ?_
    refine Z7 fun W7 hE => ?_
    refine LS ?_ (J1 Y4 hE) (g := w.heap.size) (cells := J0 .i64 16 (Q5 D)) (h1 := (Z0 _ _ _))
    refine J9 ?_
    have hF : Below w.heap.size w (W7.setRow w.heap.size (J0 .i64 16 (Q5 D))) ∧ Blk (W7.setRow w.heap.size (J0 .i64 16 (Q5 D))) w.heap.size (J0 .i64 16 (Q5 D)) 124 ∧ Blk (W7.setRow w.heap.size (J0 .i64 16 (Q5 D))) (w.heap.size + 1) (J0 .i64 16 (fun _ => 0)) 124 ∧ Blk (W7.setRow w.heap.size (J0 .i64 16 (Q5 D))) V (J0 .i64 16 (Q5 D)) 124 := ⟨(Z6 (Q9 R hE R.size) (by omega) _), (Y6 (J1 Y4 hE) (J0 .i64 16 (Q5 D))), (J3 (J1 J hE) (by omega) _), (J3 (J1 G hE) (by omega) _)⟩
    generalize (W7.setRow w.heap.size (J0 .i64 16 (Q5 D))) = W8 at hF ⊢
    clear R Y4 J G
    obtain ⟨R, Y4, J, G⟩ := hF
    go_wp2_with fail
    go_roundw
    case rel =>
     refine ⟨t + 1, N - PP, by omega, by go_num, by have := HN.out; have := HL.out; rw [Nat.add_mul]; omega, R, ?_, J⟩
     rw [← Y1a N BN.out HL.out, ← ν.out]; exact Y4
    case measure => simp [intOf]; omega
   have β : k < 16 := by omega
   have hk3' : (k : Int) < 16 := by omega
   clear U
   have S := J4g M PP k (by rw [HM.out]; unfold Q7 PP; omega)
   rw [show M - PP = D by rw [HM.out, ν.out], show Q5 M k = Q5 N k by rw [HM.out, Q2q N k β], Q9a k β] at S
   have c0 := (Q0 G k).trans (J4 _ _ _ _ β)
   rw [J4s] at c0
   have f0 := V5 G
   have lb := J03 N k
   have bb := J4y M PP k
   have α : ∀ v, v = Q5 D k → (J0 .i64 16 (J4r k (Q5 D) (upd (Q5 N) 0 (Q5 N 0 - 65517)))).setIfInBounds k (.int .i64 v) = J0 .i64 16 (J4r (k + 1) (Q5 D) (upd (Q5 N) 0 (Q5 N 0 - 65517))) := fun v hv => by rw [hv]; exact J2y _ _ _ _ _
   have HS := Lib.hid α
   clear α
   obtain ⟨bo, γ⟩ := V0 (J19 M PP k)
   rw [← γ] at S bb ⊢
   clear γ
   by_cases e0 : k = 0
   ·
    subst e0
    rw [if_pos rfl] at S
    have hu : upd (Q5 N) 0 (Q5 N 0 - 65517) 0 = Q5 N 0 - 65517 := J1z _ _ _
    rw [hu] at c0
    clear hu
    obtain ⟨x, hx⟩ := V0 (Q5 N 0)
    obtain ⟨d, T⟩ := V0 (Q5 D 0)
    have lD := J03 D 0
    rw [← hx] at c0 S lb
    rw [← T] at S lD
    have HD := Lib.hid T
    clear hx T
    rcases S with ⟨h1, h2⟩ | ⟨h1, h2, h3⟩
    ·
     have Y : ¬ x - 65517 - (bo : Int) < 0 := by omega
     have H1 := Lib.hid h1
     have H2 := Lib.hid h2
     clear h1 h2 lD
     go_wp2
     have h1 := H1.out
     go_roundw
     case rel =>
      have hs := (Y5 G 0 (.int .i64 (x - 65517 - (bo : Int))))
      rw [HS.out (x - 65517 - (bo : Int)) (H2.out.trans HD.out)] at hs
      refine ⟨0 + 1, by omega, ?_, ?_, ?_, ?_, ?_, hs⟩
      ·
       go_num
      ·
       rw [h1]; rfl
      ·
       exact (Z9 R (by omega) _ _)
      ·
       exact (J8 Y4 (by omega) _ _)
      exact (J8 J (by omega) _ _)
     case measure => simp [intOf] <;> omega
    have H1 := Lib.hid h1
    have H2 := Lib.hid h3
    clear h1 h3 lD
    go_wp2
    have h1 := H1.out
    go_roundw
    case rel =>
     have hs := (Y5 (Y5 G 0 (.int .i64 (x - 65517 - (bo : Int)))) 0 (.int .i64 (x - 65517 - (bo : Int) + 65536)))
     simp only [Array.setIfInBounds_setIfInBounds] at hs
     rw [HS.out (x - 65517 - (bo : Int) + 65536) (H2.out.trans HD.out)] at hs
     refine ⟨0 + 1, by omega, ?_, ?_, ?_, ?_, ?_, hs⟩
     ·
      go_num
     ·
      rw [h1]; rfl
     ·
      exact (Z9 (Z9 R (by omega) _ _) (by omega) _ _)
     ·
      exact (J8 (J8 Y4 (by omega) _ _) (by omega) _ _)
     exact (J8 (J8 J (by omega) _ _) (by omega) _ _)
    case measure => simp [intOf] <;> omega
   rw [if_neg e0] at S
   rw [J0i _ _ _ _ e0] at c0
   by_cases Z : k = 15
   ·
    subst Z
    rw [if_pos rfl] at S
    clear e0
    obtain ⟨x, hx⟩ := V0 (Q5 N 15)
    obtain ⟨d, T⟩ := V0 (Q5 D 15)
    have lD := J03 D 15
    rw [← hx] at c0 S lb
    rw [← T] at S lD
    have HD := Lib.hid T
    clear hx T
    rcases S with ⟨h1, h2⟩ | ⟨h1, h2, h3⟩
    ·
     have Y : ¬ x - 32767 - (bo : Int) < 0 := by omega
     have H1 := Lib.hid h1
     have H2 := Lib.hid h2
     clear h1 h2 lD
     go_wp2
     have h1 := H1.out
     go_roundw
     case rel =>
      have hs := (Y5 (Y5 G 15 (.int .i64 (x - 32767))) 15 (.int .i64 (x - 32767 - (bo : Int))))
      simp only [Array.setIfInBounds_setIfInBounds] at hs
      rw [HS.out (x - 32767 - (bo : Int)) (H2.out.trans HD.out)] at hs
      refine ⟨15 + 1, by omega, ?_, ?_, ?_, ?_, ?_, hs⟩
      ·
       go_num
      ·
       rw [h1]; rfl
      ·
       exact (Z9 (Z9 R (by omega) _ _) (by omega) _ _)
      ·
       exact (J8 (J8 Y4 (by omega) _ _) (by omega) _ _)
      exact (J8 (J8 J (by omega) _ _) (by omega) _ _)
     case measure => simp [intOf] <;> omega
    have H1 := Lib.hid h1
    have H2 := Lib.hid h3
    clear h1 h3 lD
    go_wp2
    have h1 := H1.out
    go_roundw
    case rel =>
     have hs := (Y5 (Y5 (Y5 G 15 (.int .i64 (x - 32767))) 15 (.int .i64 (x - 32767 - (bo : Int)))) 15 (.int .i64 (x - 32767 - (bo : Int) + 65536)))
     simp only [Array.setIfInBounds_setIfInBounds] at hs
     rw [HS.out (x - 32767 - (bo : Int) + 65536) (H2.out.trans HD.out)] at hs
     refine ⟨15 + 1, by omega, ?_, ?_, ?_, ?_, ?_, hs⟩
     ·
      go_num
     ·
      rw [h1]; rfl
     ·
      exact (Z9 (Z9 (Z9 R (by omega) _ _) (by omega) _ _) (by omega) _ _)
     ·
      exact (J8 (J8 (J8 Y4 (by omega) _ _) (by omega) _ _) (by omega) _ _)
     exact (J8 (J8 (J8 J (by omega) _ _) (by omega) _ _) (by omega) _ _)
    case measure => simp [intOf] <;> omega
   rw [if_neg Z] at S
   have p0 : (0 : Int) < (k : Int) := by omega
   have ξ : (k : Int) < 15 := by omega
   have χ : ((k : Int) == 15) = false := by rw [beq_eq_false_iff_ne]; omega
   have g1 : decide ((0 : Int) < (k : Int)) = true := decide_eq_true p0
   have g2 : decide ((k : Int) < 15) = true := decide_eq_true ξ
   have g3 : 0 < k := by omega
   have g4 : decide (0 < k) = true := decide_eq_true g3
   have g5 : k < 15 := by omega
   have g6 : decide (k < 15) = true := decide_eq_true g5
   have g7 : (k == 15) = false := by rw [beq_eq_false_iff_ne]; omega
   clear e0 Z
   obtain ⟨x, hx⟩ := V0 (Q5 N k)
   obtain ⟨d, T⟩ := V0 (Q5 D k)
   have lD := J03 D k
   rw [← hx] at c0 S lb
   rw [← T] at S lD
   have HD := Lib.hid T
   clear hx T
   rcases S with ⟨h1, h2⟩ | ⟨h1, h2, h3⟩
   ·
    have Y : ¬ x - 65535 - (bo : Int) < 0 := by omega
    have H1 := Lib.hid h1
    have H2 := Lib.hid h2
    clear h1 h2 lD
    go_wp2
    have h1 := H1.out
    go_roundw
    case rel =>
     have hs := (Y5 (Y5 G k (.int .i64 (x - 65535))) k (.int .i64 (x - 65535 - (bo : Int))))
     simp only [Array.setIfInBounds_setIfInBounds] at hs
     rw [HS.out (x - 65535 - (bo : Int)) (H2.out.trans HD.out)] at hs
     refine ⟨k + 1, by omega, ?_, ?_, ?_, ?_, ?_, hs⟩
     ·
      go_num
     ·
      rw [h1]; rfl
     ·
      exact (Z9 (Z9 R (by omega) _ _) (by omega) _ _)
     ·
      exact (J8 (J8 Y4 (by omega) _ _) (by omega) _ _)
     exact (J8 (J8 J (by omega) _ _) (by omega) _ _)
    case measure => simp [intOf] <;> omega
   have H1 := Lib.hid h1
   have H2 := Lib.hid h3
   clear h1 h3 lD
   go_wp2
   have h1 := H1.out
   go_roundw
   case rel =>
    have hs := (Y5 (Y5 (Y5 G k (.int .i64 (x - 65535))) k (.int .i64 (x - 65535 - (bo : Int)))) k (.int .i64 (x - 65535 - (bo : Int) + 65536)))
    simp only [Array.setIfInBounds_setIfInBounds] at hs
    rw [HS.out (x - 65535 - (bo : Int) + 65536) (H2.out.trans HD.out)] at hs
    refine ⟨k + 1, by omega, ?_, ?_, ?_, ?_, ?_, hs⟩
    ·
     go_num
    ·
     rw [h1]; rfl
    ·
     exact (Z9 (Z9 (Z9 R (by omega) _ _) (by omega) _ _) (by omega) _ _)
    ·
     exact (J8 (J8 (J8 Y4 (by omega) _ _) (by omega) _ _) (by omega) _ _)
    exact (J8 (J8 (J8 J (by omega) _ _) (by omega) _ _) (by omega) _ _)
   case measure => simp [intOf] <;> omega
end

section
set_option maxHeartbeats 4000000

theorem Z1d (X : Nat) : okF (Q5 X) := fun j => by have := J03 X j; omega
theorem Y1b (X Y : Nat) : okF (fun j => Q5 X j + Q5 Y j) := fun j => by have := J03 X j; have := J03 Y j; dsimp only; omega
theorem Z6q (X Y : Nat) (hX : X < Q7) (hY : Y < Q7) : J0c (fun j => Q5 X j + Q5 Y j) 16 = X + Y := by
  rw [Q1w _ _ (fun j => (J03 X j).1) (fun j => (J03 Y j).1), J76, J76, show (2 : Nat) ^ (16 * 16) = Q7 by decide, Nat.mod_eq_of_lt hX, Nat.mod_eq_of_lt hY]
theorem Q7i (X : Nat) (hX : X < Q7) : J0c (Q5 X) 16 = X := by
  rw [J76, show (2 : Nat) ^ (16 * 16) = Q7 by decide, Nat.mod_eq_of_lt hX]
theorem J7j (X Y : Nat) (hX : X < Q7) (hY : Y < Q7) (w : World) :
  Calls Tryz.prog 115 #[A16 X, A16 Y] w fun e w' => K6 (A16 ((X + Y) % PP)) w w' e := by
 have HX := Lib.hid hX
 have HY := Lib.hid hY
 clear hX hY
 unfold A16
 go_enter Tryz.func115, Tryz.ntmps115
 go_wp2_with fail
 refine wn3 (c1 := (J0 .i64 16 (Q5 X))) (t1 := 124) (c2 := (J0 .i64 16 (Q5 Y))) (t2 := 124) (c3 := (J0 .i64 16 (fun _ => 0))) (t3 := 124) fun W0 M D J G => ?_
 have Z := J6 D
 have β := J6 J
 have γ := J6 G
 go_wp2_with fail
 go_loopw [5] (fun ii wr => ∃ (k : Nat), k ≤ 16 ∧ ii = .int .i64 k ∧ Below w.heap.size w wr ∧ Blk wr w.heap.size (J0 .i64 16 (J4r k (fun j => Q5 X j + Q5 Y j) (Q5 X))) 124 ∧ Blk wr (w.heap.size + 1) (J0 .i64 16 (Q5 Y)) 124 ∧ Blk wr (w.heap.size + 2) (J0 .i64 16 (fun _ => 0)) 124)
  (fun ii _ => (16 - intOf ii).toNat)
 case atStart =>
  refine ⟨0, by omega, rfl, M, ?_, J, G⟩
  rw [J2q]; exact D
 case round =>
  obtain ⟨k, hk, rfl, M, D, J, G⟩ := hrel
  by_cases N : k = 16
  ·
   have δ := N
   subst N
   rw [J3n] at D
   go_upto_region 5 with fail
   have U := J6 D
   have α := J6 J
   have V := J6 G
   have S := Q1c (fun j => Q5 X j + Q5 Y j) (Y1b X Y)
   rw [Z6q X Y HX.out HY.out] at S
   obtain ⟨R, hR⟩ := V0 ((X + Y) % PP)
   rw [← hR] at S
   have HR := Lib.hid hR
   clear hR
   refine Px 2 ?_
   refine XL ?_
   refine Xf ?_ (fun W hW => S W)
   refine Z7 fun W2 hE => ?_
   refine Lp ?_ (J1 G hE) (cells := J0 .i64 16 (Q5 R)) (h1 := (Z0 _ _ _))
   intro W3 hO h_
   refine J9 ?_
   replace D := ko D hE hO (by omega)
   replace J := ko J hE hO (by omega)
   replace G := h_
   replace M := bwo M hE hO M.size (by omega)
   clear hO h_
   go_wp2
   refine bodyPost_ret (Y3 rfl rfl G (by kernel_rfl) (by kernel_rfl)) rfl ⟨?_, M⟩
   (rw [← HR.out] <;> rfl)
  have T : k < 16 := by omega
  have hk3' : (k : Int) < 16 := by omega
  clear N
  have c0 := (Q0 D k).trans (J4 _ _ _ _ T)
  rw [J4s] at c0
  have c1 := (Q0 J k).trans (J4 _ _ _ _ T)
  have f0 := V5 D
  have l0 := J03 X k
  have l1 := J03 Y k
  have w1 : IntKind.i64.wrap (Q5 X k + Q5 Y k) = Q5 X k + Q5 Y k := IntWalk.i64_in _ (by omega)
  go_wp2
  go_region
  go_wp2
  have hs := Y5 D k (.int .i64 (Q5 X k + Q5 Y k))
  have hm := J2y .i64 16 k (fun j => Q5 X j + Q5 Y j) (Q5 X)
  rw [hm] at hs
  go_roundw
  case rel =>
   refine ⟨k + 1, by omega, ?_, ?_, Y9 hs, ?_, ?_⟩
   ·
    (first | rfl | go_num)
   ·
    exact (Z9 M (by omega) _ _).drew
   ·
    exact Y9 (J8 J (by omega) _ _)
   exact Y9 (J8 G (by omega) _ _)
  case measure => simp [intOf]; omega
end

section
set_option maxHeartbeats 4000000

end

section
set_option maxHeartbeats 4000000

theorem Q2r (X : Nat) (hX : X ≤ PP) (w : World) :
  Calls Tryz.prog 117 #[A16 X] w fun e w' => K6 (A16 ((PP - X) % PP)) w w' e := by
 have HX := Lib.hid hX
 clear hX
 unfold A16
 go_enter Tryz.func117, Tryz.ntmps117
 go_wp2_with fail
 refine wn3 (c1 := (J0 .i64 16 (Q5 X))) (t1 := 124) (c2 := (J0 .i64 16 (fun _ => 0))) (t2 := 124) (c3 := (J0 .i64 16 (fun _ => 0))) (t3 := 124) fun W0 N Y4 J G => ?_
 have κ := J6 Y4
 have ε := J6 J
 have η := J6 G
 obtain ⟨D, hD⟩ := V0 (PP - X)
 have HD := Lib.hid hD
 clear hD
 go_wp2_with fail
 go_loopw [4, 5] (fun oo ii wr => ∃ (k : Nat), k ≤ 16 ∧ ii = .int .i64 k ∧ oo = .int .i64 (J19 PP X k : Int) ∧ Below w.heap.size w wr ∧ Blk wr w.heap.size (J0 .i64 16 (Q5 X)) 124 ∧ Blk wr (w.heap.size + 1) (J0 .i64 16 (fun _ => 0)) 124 ∧ Blk wr (w.heap.size + 2) (J0 .i64 16 (J4r k (Q5 D) (fun _ => 0))) 124)
  (fun oo ii _ => (16 - intOf ii).toNat)
 case atStart =>
  refine ⟨0, by omega, rfl, by rw [J6h]; rfl, N, Y4, J, ?_⟩
  rw [J2q]; exact G
 case round =>
  obtain ⟨k, hk, rfl, rfl, N, Y4, J, G⟩ := hrel
  by_cases U : k = 16
  ·
   have ρ := U
   subst U
   rw [J3n] at G
   have bD : D < Q7 := by rw [HD.out]; exact Nat.lt_of_le_of_lt (Nat.sub_le _ _) J68
   have BD := Lib.hid bD
   clear bD
   go_upto_region 16 with fail
   have θ := J6 Y4
   have δ := J6 J
   have ζ := J6 G
   have α := Q1c (Q5 D) (Z1d D)
   rw [Q7i D BD.out] at α
   obtain ⟨R, hR⟩ := V0 (D % PP)
   rw [← hR] at α
   have HR := Lib.hid hR
   clear hR
   refine Px 2 ?_
   refine XL ?_
   refine Xf ?_ (fun W hW => α W)
   refine Z7 fun W2 hE => ?_
   refine Lp ?_ (J1 J hE) (cells := J0 .i64 16 (Q5 R)) (h1 := (Z0 _ _ _))
   intro W3 hO h_
   refine J9 ?_
   replace Y4 := ko Y4 hE hO (by omega)
   replace J := h_
   replace G := ko G hE hO (by omega)
   replace N := bwo N hE hO N.size (by omega)
   clear hO h_
   go_wp2
   refine bodyPost_ret (Y3 rfl rfl J (by kernel_rfl) (by kernel_rfl)) rfl ⟨?_, N⟩
   (rw [← HD.out, ← HR.out] <;> rfl)
  have V : k < 16 := by omega
  have hk3' : (k : Int) < 16 := by omega
  clear U
  have M := J4g PP X k HX.out
  rw [← HD.out, Q9a k V] at M
  have c0 := (Q0 G k).trans (J4 _ _ _ _ V)
  rw [J4s] at c0
  have c1 := (Q0 Y4 k).trans (J4 _ _ _ _ V)
  have f0 := V5 G
  have lb := J03 X k
  have bb := J4y PP X k
  have Z : ∀ v, v = Q5 D k → (J0 .i64 16 (J4r k (Q5 D) (fun _ => 0))).setIfInBounds k (.int .i64 v) = J0 .i64 16 (J4r (k + 1) (Q5 D) (fun _ => 0)) := fun v hv => by rw [hv]; exact J2y _ _ _ _ _
  have HS := Lib.hid Z
  clear Z
  obtain ⟨bo, β⟩ := V0 (J19 PP X k)
  rw [← β] at M bb ⊢
  clear β
  by_cases e0 : k = 0
  ·
   subst e0
   rw [if_pos rfl] at M
   obtain ⟨x, hx⟩ := V0 (Q5 X 0)
   obtain ⟨d, S⟩ := V0 (Q5 D 0)
   have lD := J03 D 0
   rw [← hx] at c1 M lb
   rw [← S] at M lD
   have T := Lib.hid S
   clear hx S
   rcases M with ⟨h1, h2⟩ | ⟨h1, h2, h3⟩
   ·
    have Y : ¬ 65517 - x - (bo : Int) < 0 := by omega
    have H1 := Lib.hid h1
    have H2 := Lib.hid h2
    clear h1 h2 lD
    go_wp2
    have h1 := H1.out
    go_roundw
    case rel =>
     have hs := (Y5 G 0 (.int .i64 (65517 - x - (bo : Int))))
     rw [HS.out (65517 - x - (bo : Int)) (H2.out.trans T.out)] at hs
     refine ⟨0 + 1, by omega, ?_, ?_, ?_, ?_, ?_, hs⟩
     ·
      (first | rfl | go_num)
     ·
      rw [h1]; rfl
     ·
      exact (Z9 N (by omega) _ _)
     ·
      exact (J8 Y4 (by omega) _ _)
     exact (J8 J (by omega) _ _)
    case measure => simp [intOf] <;> omega
   have H1 := Lib.hid h1
   have H2 := Lib.hid h3
   clear h1 h3 lD
   go_wp2
   have h1 := H1.out
   go_roundw
   case rel =>
    have hs := (Y5 (Y5 G 0 (.int .i64 (65517 - x - (bo : Int)))) 0 (.int .i64 (65517 - x - (bo : Int) + 65536)))
    simp only [Array.setIfInBounds_setIfInBounds] at hs
    rw [HS.out (65517 - x - (bo : Int) + 65536) (H2.out.trans T.out)] at hs
    refine ⟨0 + 1, by omega, ?_, ?_, ?_, ?_, ?_, hs⟩
    ·
     (first | rfl | go_num)
    ·
     rw [h1]; rfl
    ·
     exact (Z9 (Z9 N (by omega) _ _) (by omega) _ _)
    ·
     exact (J8 (J8 Y4 (by omega) _ _) (by omega) _ _)
    exact (J8 (J8 J (by omega) _ _) (by omega) _ _)
   case measure => simp [intOf] <;> omega
  rw [if_neg e0] at M
  by_cases γ : k = 15
  ·
   subst γ
   rw [if_pos rfl] at M
   clear e0
   obtain ⟨x, hx⟩ := V0 (Q5 X 15)
   obtain ⟨d, S⟩ := V0 (Q5 D 15)
   have lD := J03 D 15
   rw [← hx] at c1 M lb
   rw [← S] at M lD
   have T := Lib.hid S
   clear hx S
   rcases M with ⟨h1, h2⟩ | ⟨h1, h2, h3⟩
   ·
    have Y : ¬ 32767 - x - (bo : Int) < 0 := by omega
    have H1 := Lib.hid h1
    have H2 := Lib.hid h2
    clear h1 h2 lD
    go_wp2
    have h1 := H1.out
    go_roundw
    case rel =>
     have hs := (Y5 G 15 (.int .i64 (32767 - x - (bo : Int))))
     rw [HS.out (32767 - x - (bo : Int)) (H2.out.trans T.out)] at hs
     refine ⟨15 + 1, by omega, ?_, ?_, ?_, ?_, ?_, hs⟩
     ·
      (first | rfl | go_num)
     ·
      rw [h1]; rfl
     ·
      exact (Z9 N (by omega) _ _)
     ·
      exact (J8 Y4 (by omega) _ _)
     exact (J8 J (by omega) _ _)
    case measure => simp [intOf] <;> omega
   have H1 := Lib.hid h1
   have H2 := Lib.hid h3
   clear h1 h3 lD
   go_wp2
   have h1 := H1.out
   go_roundw
   case rel =>
    have hs := (Y5 (Y5 G 15 (.int .i64 (32767 - x - (bo : Int)))) 15 (.int .i64 (32767 - x - (bo : Int) + 65536)))
    simp only [Array.setIfInBounds_setIfInBounds] at hs
    rw [HS.out (32767 - x - (bo : Int) + 65536) (H2.out.trans T.out)] at hs
    refine ⟨15 + 1, by omega, ?_, ?_, ?_, ?_, ?_, hs⟩
    ·
     (first | rfl | go_num)
    ·
     rw [h1]; rfl
    ·
     exact (Z9 (Z9 N (by omega) _ _) (by omega) _ _)
    ·
     exact (J8 (J8 Y4 (by omega) _ _) (by omega) _ _)
    exact (J8 (J8 J (by omega) _ _) (by omega) _ _)
   case measure => simp [intOf] <;> omega
  rw [if_neg γ] at M
  have p0 : ¬ (k : Int) = 0 := by omega
  have ξ : ¬ (k : Int) = 15 := by omega
  have ν : ((k : Int) == 0) = false := by rw [beq_eq_false_iff_ne]; omega
  have μ : ((k : Int) == 15) = false := by rw [beq_eq_false_iff_ne]; omega
  have g6 : (k == 0) = false := by rw [beq_eq_false_iff_ne]; omega
  have g7 : (k == 15) = false := by rw [beq_eq_false_iff_ne]; omega
  obtain ⟨x, hx⟩ := V0 (Q5 X k)
  obtain ⟨d, S⟩ := V0 (Q5 D k)
  have lD := J03 D k
  rw [← hx] at c1 M lb
  rw [← S] at M lD
  have T := Lib.hid S
  clear hx S
  rcases M with ⟨h1, h2⟩ | ⟨h1, h2, h3⟩
  ·
   have Y : ¬ 65535 - x - (bo : Int) < 0 := by omega
   have H1 := Lib.hid h1
   have H2 := Lib.hid h2
   clear h1 h2 lD
   go_wp2
   have h1 := H1.out
   go_roundw
   case rel =>
    have hs := (Y5 G k (.int .i64 (65535 - x - (bo : Int))))
    rw [HS.out (65535 - x - (bo : Int)) (H2.out.trans T.out)] at hs
    refine ⟨k + 1, by omega, ?_, ?_, ?_, ?_, ?_, hs⟩
    ·
     (first | rfl | go_num)
    ·
     rw [h1]; rfl
    ·
     exact (Z9 N (by omega) _ _)
    ·
     exact (J8 Y4 (by omega) _ _)
    exact (J8 J (by omega) _ _)
   case measure => simp [intOf] <;> omega
  have H1 := Lib.hid h1
  have H2 := Lib.hid h3
  clear h1 h3 lD
  go_wp2
  have h1 := H1.out
  go_roundw
  case rel =>
   have hs := (Y5 (Y5 G k (.int .i64 (65535 - x - (bo : Int)))) k (.int .i64 (65535 - x - (bo : Int) + 65536)))
   simp only [Array.setIfInBounds_setIfInBounds] at hs
   rw [HS.out (65535 - x - (bo : Int) + 65536) (H2.out.trans T.out)] at hs
   refine ⟨k + 1, by omega, ?_, ?_, ?_, ?_, ?_, hs⟩
   ·
    (first | rfl | go_num)
   ·
    rw [h1]; rfl
   ·
    exact (Z9 (Z9 N (by omega) _ _) (by omega) _ _)
   ·
    exact (J8 (J8 Y4 (by omega) _ _) (by omega) _ _)
   exact (J8 (J8 J (by omega) _ _) (by omega) _ _)
  case measure => simp [intOf] <;> omega
theorem Q5o (X Y : Nat) (hX : X < Q7) (hY : Y ≤ PP) (w : World) :
  Calls Tryz.prog 114 #[A16 X, A16 Y] w fun e w' => K6 (A16 ((X + (PP - Y) % PP) % PP)) w w' e := by
 have HX := Lib.hid hX
 have HY := Lib.hid hY
 clear hX hY
 unfold A16
 go_enter Tryz.func114, Tryz.ntmps114
 go_upto_region 1 with fail
 refine wn3 (c1 := (J0 .i64 16 (Q5 X))) (t1 := 124) (c2 := (J0 .i64 16 (Q5 Y))) (t2 := 124) (c3 := (J0 .i64 16 (fun _ => 0))) (t3 := 124) fun W0 N G J D => ?_
 have U := J6 G
 have V := J6 J
 have Z := J6 D
 have R := Q2r Y HY.out
 obtain ⟨M, hM⟩ := V0 ((PP - Y) % PP)
 rw [← hM] at R
 have HM := Lib.hid hM
 have bM := J0a hM
 have BM := Lib.hid bM
 clear hM bM
 have T := J7j X M HX.out BM.out
 obtain ⟨S, hS⟩ := V0 ((X + M) % PP)
 rw [← hS] at T
 have α := Lib.hid hS
 clear hS
 refine Rx 4 ?_
 refine XL ?_
 refine XL ?_
 refine Xf ?_ (fun W hW => R W)
 refine Xf ?_ (fun W hW => T W)
 refine Z7 fun W1 hE => ?_
 refine Lp ?_ (J1 D hE) (cells := J0 .i64 16 (Q5 S)) (h1 := (Z0 _ _ _))
 intro W2 hO h_
 refine LN ?_
 replace G := ko G hE hO (by omega)
 replace J := ko J hE hO (by omega)
 replace D := h_
 replace N := bwo N hE hO N.size (by omega)
 clear hO h_
 go_wp2
 refine bodyPost_ret (Y3 rfl rfl D (by kernel_rfl) (by kernel_rfl)) rfl ⟨?_, N⟩
 (rw [← HM.out, ← α.out] <;> rfl)
end

section
set_option maxHeartbeats 4000000

theorem Q2s (f : Nat → Int) (m : Nat) : ∀ n, J0c f (m + n) = J0c f m + 2 ^ (16 * m) * J0c (fun j => f (m + j)) n
  | 0 => by simp [J0c]
  | n + 1 => by
    show J0c f (m + n) + (f (m + n)).toNat * 2 ^ (16 * (m + n)) = J0c f m + 2 ^ (16 * m) * (J0c (fun j => f (m + j)) n + (f (m + n)).toNat * 2 ^ (16 * n))
    rw [Q2s f m n, Nat.mul_add, Nat.pow_add, Nat.mul_add (2 ^ (16 * m)), Nat.mul_left_comm (2 ^ (16 * m))]; omega
theorem Q2t (f : Nat → Int) (hf : ∀ j, 0 ≤ f j) (c : Nat) : ∀ n, J0c (fun j => (c : Int) * f j) n = c * J0c f n
  | 0 => rfl
  | n + 1 => by
    show J0c _ n + ((c : Int) * f n).toNat * _ = c * (J0c f n + (f n).toNat * _)
    obtain ⟨x, hx⟩ := Int.eq_ofNat_of_zero_le (hf n)
    rw [Q2t f hf c n, Nat.mul_add, hx, ← Int.natCast_mul, Int.toNat_natCast, Int.toNat_natCast, Nat.mul_assoc]
def J7k (F : Nat → Int) : Nat → Int := fun j => F j + 38 * F (j + 16)
theorem Q9b (F : Nat → Int) (h : ∀ j, 0 ≤ F j) : J0c (J7k F) 16 % PP = J0c F 32 % PP := by
  have e1 : J0c (J7k F) 16 = J0c F 16 + 38 * J0c (fun j => F (16 + j)) 16 := by
    have := Q1w F (fun j => (38 : Nat) * F (16 + j)) h (fun j => Int.mul_nonneg (by omega) (h _)) 16
    rw [Q2t (fun j => F (16 + j)) (fun j => h (16 + j)) 38 16] at this
    rw [← this]
    apply J8o
    intro j _
    unfold J7k
    rw [Nat.add_comm j 16]; rfl
  have e2 := Q2s F 16 16
  rw [show 16 + 16 = 32 by decide, show (2 : Nat) ^ (16 * 16) = Q7 by decide, show Q7 = 2 * PP + 38 from PP_two.symm] at e2
  rw [e1, e2, Nat.add_mul, Nat.mul_comm 2 PP, Nat.mul_assoc PP, ← Nat.add_assoc, Nat.add_right_comm, Nat.add_mul_mod_self_left]
theorem Z3h (F : Nat → Int) (h : ∀ j, 0 ≤ F j) (X Y i k : Nat) (hi : i < 16) (hk : k < 16) (B : Nat) (hB : ∀ j, F j ≤ (B : Int)) (hs : J0c F 32 = X % 2 ^ (16 * i) * Y + (Q5 X i).toNat * 2 ^ (16 * i) * (Y % 2 ^ (16 * k))) :
    (∀ j, 0 ≤ upd F (i + k) (F (i + k) + Q5 X i * Q5 Y k) j) ∧ (∀ j, upd F (i + k) (F (i + k) + Q5 X i * Q5 Y k) j ≤ ((B + 4294836225 : Nat) : Int)) ∧
    J0c (upd F (i + k) (F (i + k) + Q5 X i * Q5 Y k)) 32 = X % 2 ^ (16 * i) * Y + (Q5 X i).toNat * 2 ^ (16 * i) * (Y % 2 ^ (16 * (k + 1))) := by
  have r1 := J03 X i
  have r2 := J03 Y k
  have h0 := h (i + k)
  obtain ⟨x, hx⟩ := Int.eq_ofNat_of_zero_le r1.1
  have hy : Q5 Y k = ((Y / 2 ^ (16 * k) % 65536 : Nat) : Int) := rfl
  have D := Q1v F (i + k) (F (i + k) + Q5 X i * Q5 Y k) 32 (by omega)
  obtain ⟨f, hf⟩ := Int.eq_ofNat_of_zero_le h0
  have M : Y / 2 ^ (16 * k) % 65536 < 65536 := Nat.mod_lt _ (by decide)
  rw [J3a Y k]
  rw [hx] at hs r1 ⊢ D
  rw [hy] at r2 ⊢ D
  generalize Y / 2 ^ (16 * k) % 65536 = y at *
  have N : x * y ≤ 65535 * 65535 := Nat.mul_le_mul (by omega) (by omega)
  have G : (x : Int) * (y : Int) = ((x * y : Nat) : Int) := by rw [Int.natCast_mul]
  rw [G] at D ⊢
  have J := hB (i + k)
  rw [hf] at D ⊢
  refine ⟨fun j => ?_, fun j => ?_, ?_⟩
  · unfold upd; split
    · omega
    exact h j
  · unfold upd; split
    · omega
    have := hB j; omega
  rw [← Int.natCast_add] at D ⊢
  rw [hs] at D
  simp only [Int.toNat_natCast] at D ⊢
  rw [Nat.add_mul] at D
  rw [Nat.mul_add (x * 2 ^ (16 * i)), show x * 2 ^ (16 * i) * (y * 2 ^ (16 * k)) = x * y * 2 ^ (16 * (i + k)) by rw [show 16 * (i + k) = 16 * i + 16 * k by omega, Nat.pow_add, Nat.mul_mul_mul_comm]]
  omega

theorem K5 (X Y : Nat) (hX : X < Q7) (hY : Y < Q7) (w : World) :
  Calls Tryz.prog 112 #[A16 X, A16 Y] w fun e w' => K6 (A16 (X * Y % PP)) w w' e := by
 have HX := Lib.hid hX
 have HY := Lib.hid hY
 clear hX hY
 unfold A16
 go_enter Tryz.func112, Tryz.ntmps112
 go_wp2_with fail
 refine wn4 (c1 := (J0 .i64 16 (Q5 X))) (t1 := 124) (c2 := (J0 .i64 16 (Q5 Y))) (t2 := 124) (c3 := (J0 .i64 16 (fun _ => 0))) (t3 := 124) (c5 := (J0 .i64 32 (fun _ => 0))) (t5 := 225) fun W0 T J N M D => ?_
 have Γ := J6 J
 have χ := J6 N
 have ω := J6 M
 have φ := J6 D
 go_wp2_with fail
 go_loopw [6] (fun ii wr => ∃ (i : Nat) (F : Nat → Int), i ≤ 16 ∧ ii = .int .i64 i ∧ Hid ((∀ j, 0 ≤ F j) ∧ (∀ j, F j ≤ ((16 * i * 4294836225 : Nat) : Int)) ∧ J0c F 32 = X % 2 ^ (16 * i) * Y) ∧ Below w.heap.size w wr ∧ Blk wr w.heap.size (J0 .i64 16 (Q5 X)) 124 ∧ Blk wr (w.heap.size + 1) (J0 .i64 16 (Q5 Y)) 124 ∧ Blk wr (w.heap.size + 2) (J0 .i64 16 (fun _ => 0)) 124 ∧ Blk wr (w.heap.size + 3) (J0 .i64 32 F) 225)
  (fun ii _ => (16 - intOf ii).toNat)
 case atStart =>
  refine ⟨0, fun _ => 0, by omega, rfl, Lib.hid ⟨fun _ => Int.le_refl _, fun _ => by simp, by rw [Q3y, Nat.mul_zero, Nat.pow_zero, Nat.mod_one, Nat.zero_mul]⟩, T, J, N, M, D⟩
 case round =>
  obtain ⟨i, F, hi, rfl, HF, T, J, N, M, D⟩ := hrel
  by_cases S : i = 16
  ·
   have μ := S
   subst S
   go_upto_region 9 with fail
   have β := J6 J
   have δ := J6 N
   have γ := J6 M
   have α := J6 D
   refine Px1 0 8 (z := J0 .i64 16 (fun _ => 0)) (t := 124) ?_
   refine XN ?_
   intro θ W2 Θ hE U
   have Ω := T.size
   refine J9 ?_
   have hF : Below w.heap.size w W2 ∧ Blk W2 w.heap.size (J0 .i64 16 (Q5 X)) 124 ∧ Blk W2 (w.heap.size + 1) (J0 .i64 16 (Q5 Y)) 124 ∧ Blk W2 (w.heap.size + 2) (J0 .i64 16 (fun _ => 0)) 124 ∧ Blk W2 (w.heap.size + 3) (J0 .i64 32 F) 225 ∧ Blk W2 θ (J0 .i64 16 (fun _ => 0)) 124 := ⟨(Q9 T hE T.size), (J1 J hE), (J1 N hE), (J1 M hE), (J1 D hE), U⟩
   clear T J N M D U
   obtain ⟨T, J, N, M, D, U⟩ := hF
   have ψ := J6 U
   go_wp2_with fail
   go_loopw [9] (fun ii wr => ∃ (k : Nat), k ≤ 16 ∧ ii = .int .i64 k ∧ Below w.heap.size w wr ∧ Blk wr w.heap.size (J0 .i64 16 (Q5 X)) 124 ∧ Blk wr (w.heap.size + 1) (J0 .i64 16 (Q5 Y)) 124 ∧ Blk wr (w.heap.size + 2) (J0 .i64 16 (fun _ => 0)) 124 ∧ Blk wr (w.heap.size + 3) (J0 .i64 32 F) 225 ∧ Blk wr θ (J0 .i64 16 (J4r k (J7k F) (fun _ => 0))) 124)
    (fun ii _ => (16 - intOf ii).toNat)
   case atStart =>
    refine ⟨0, by omega, rfl, T, J, N, M, D, ?_⟩
    rw [J2q]; exact U
   case round =>
    obtain ⟨k, hk, rfl, T, J, N, M, D, U⟩ := hrel
    by_cases S : k = 16
    ·
     have μ := S
     subst S
     rw [J3n] at U
     go_upto_region 14 with fail
     have ρ := J6 J
     have τ := J6 N
     have ξ := J6 M
     have σ := J6 D
     have Δ := J6 U
     have η : okF (J7k F) := fun j => by have u := HF.out.1 j; have v := HF.out.2.1 j; have u2 := HF.out.1 (j + 16); have v2 := HF.out.2.1 (j + 16); unfold J7k; omega
     have ζ := Q1c (J7k F) η
     rw [Q9b F HF.out.1, HF.out.2.2, show X % 2 ^ (16 * 16) = X by rw [show (2 : Nat) ^ (16 * 16) = Q7 by decide]; exact Nat.mod_eq_of_lt HX.out] at ζ
     obtain ⟨R, hR⟩ := V0 (X * Y % PP)
     rw [← hR] at ζ
     have HR := Lib.hid hR
     clear hR
     refine Px 2 ?_
     refine XL ?_
     refine Xf ?_ (fun W hW => ζ W)
     refine Z7 fun W4 hE => ?_
     refine Lp ?_ (J1 M hE) (cells := J0 .i64 16 (Q5 R)) (h1 := (Z0 _ _ _))
     intro W5 hO h_
     refine J9 ?_
     replace J := ko J hE hO (by omega)
     replace N := ko N hE hO (by omega)
     replace M := h_
     replace D := ko D hE hO (by omega)
     replace U := ko U hE hO (by omega)
     replace T := bwo T hE hO T.size (by omega)
     clear hO h_
     go_wp2
     refine bodyPost_ret (Y3 rfl rfl M (by kernel_rfl) (by kernel_rfl)) rfl ⟨?_, T⟩
     (rw [← HR.out] <;> rfl)
    have Z : k < 16 := by omega
    have hk3' : (k : Int) < 16 := by omega
    clear S
    have c0 := (Q0 D k).trans (J4 _ _ _ _ (by omega))
    have c1 := (Q0 D (k + 16)).trans (J4 _ _ _ _ (by omega))
    have c2 := (Q0 U k).trans (J4 _ _ _ _ Z)
    rw [J4s] at c2
    have f0 := V5 U
    obtain ⟨u0, u1⟩ := And.intro (HF.out.1 k) (HF.out.2.1 k)
    obtain ⟨v0, v1⟩ := And.intro (HF.out.1 (k + 16)) (HF.out.2.1 (k + 16))
    have w0 : IntKind.i64.wrap ((k : Int) + 16) = ((k + 16 : Nat) : Int) := by rw [IntWalk.i64_in _ (by omega)]; omega
    have w1 : IntKind.i64.wrap (38 * F (k + 16)) = 38 * F (k + 16) := IntWalk.i64_in _ (by omega)
    have w2 : IntKind.i64.wrap (F k + 38 * F (k + 16)) = F k + 38 * F (k + 16) := IntWalk.i64_in _ (by omega)
    clear u0 u1 v0 v1 w0
    have D1 : (k : Int) < 32 := by omega
    have D0 : (k : Int) + 16 < 32 := by omega
    go_wp2
    go_region
    go_wp2
    have hs := Y5 U k (.int .i64 (J7k F k))
    rw [J2y] at hs
    go_roundw
    case rel =>
     refine ⟨k + 1, by omega, ?_, (Z9 T (by omega) _ _).drew, Y9 (J8 J (by omega) _ _), Y9 (J8 N (by omega) _ _), Y9 (J8 M (by omega) _ _), Y9 (J8 D (by omega) _ _), ?_⟩
     ·
      (first | rfl | go_num)
     exact Y9 hs
    case measure => simp [intOf]; omega
  have κ : i < 16 := by omega
  have hi3' : (i : Int) < 16 := by omega
  clear S
  have β := J6 J
  have δ := J6 N
  have γ := J6 M
  have α := J6 D
  go_wp2_with fail
  go_loopw [7] (fun kk wr => ∃ (k : Nat) (G : Nat → Int), k ≤ 16 ∧ kk = .int .i64 k ∧ Hid ((∀ j, 0 ≤ G j) ∧ (∀ j, G j ≤ (((16 * i + k) * 4294836225 : Nat) : Int)) ∧ J0c G 32 = X % 2 ^ (16 * i) * Y + (Q5 X i).toNat * 2 ^ (16 * i) * (Y % 2 ^ (16 * k))) ∧ Below w.heap.size w wr ∧ Blk wr w.heap.size (J0 .i64 16 (Q5 X)) 124 ∧ Blk wr (w.heap.size + 1) (J0 .i64 16 (Q5 Y)) 124 ∧ Blk wr (w.heap.size + 2) (J0 .i64 16 (fun _ => 0)) 124 ∧ Blk wr (w.heap.size + 3) (J0 .i64 32 G) 225)
   (fun kk _ => (16 - intOf kk).toNat)
  case atStart =>
   refine ⟨0, F, by omega, rfl, Lib.hid ⟨HF.out.1, HF.out.2.1, by rw [HF.out.2.2, Nat.mul_zero 16, Nat.pow_zero, Nat.mod_one, Nat.mul_zero, Nat.add_zero]⟩, T, J, N, M, D⟩
  case round =>
   obtain ⟨k, G, hk, rfl, HG, T, J, N, M, D⟩ := hrel
   by_cases S : k = 16
   ·
    have μ := S
    subst S
    go_wp2_with fail
    go_roundw
    case rel =>
     refine ⟨i + 1, G, by omega, by go_num, Lib.hid ⟨HG.out.1, ?_, ?_⟩, T, J, N, M, D⟩
     ·
      rw [show 16 * (i + 1) * 4294836225 = (16 * i + 16) * 4294836225 by omega]; exact HG.out.2.1
     have h := HG.out.2.2
     rw [show Y % 2 ^ (16 * 16) = Y by rw [show (2 : Nat) ^ (16 * 16) = Q7 by decide]; exact Nat.mod_eq_of_lt HY.out] at h
     rw [h, J3a X i, Nat.add_mul]; rfl
    case measure => simp [intOf]; omega
   have Z : k < 16 := by omega
   have hk3' : (k : Int) < 16 := by omega
   clear S
   obtain ⟨m, hm⟩ := V0 (i + k)
   have V := Z3h G HG.out.1 X Y i k κ Z _ HG.out.2.1 HG.out.2.2
   have Ξ := HG.out.1 m
   have Ψ := HG.out.2.1 m
   have lx := J03 X i
   have ly := J03 Y k
   have hp : 0 ≤ Q5 X i * Q5 Y k ∧ Q5 X i * Q5 Y k ≤ 4294836225 := ⟨Int.mul_nonneg lx.1 ly.1, by have := Int.mul_le_mul lx.2 ly.2 ly.1 (by omega); omega⟩
   rw [← hm] at V
   have ν : m < 32 := by omega
   have hm32' : (m : Int) < 32 := by omega
   have w0 : IntKind.i64.wrap ((i : Int) + (k : Int)) = (m : Int) := by rw [IntWalk.i64_in _ (by omega)]; omega
   have c0 := (Q0 D m).trans (J4 _ _ _ _ ν)
   have c1 := (Q0 J i).trans (J4 _ _ _ _ κ)
   have c2 := (Q0 N k).trans (J4 _ _ _ _ Z)
   have f0 := V5 D
   obtain ⟨p, ε⟩ := V0 (Q5 X i * Q5 Y k)
   rw [← ε] at V hp
   have w1 : IntKind.i64.wrap (Q5 X i * Q5 Y k) = p := by rw [← ε]; exact IntWalk.i64_in _ (by omega)
   have w2 : IntKind.i64.wrap (G m + p) = G m + p := IntWalk.i64_in _ (by omega)
   have HC := Lib.hid V
   clear V ε lx ly Ξ Ψ hp hm
   go_wp2
   go_region
   go_wp2
   have hs := Y5 D m (.int .i64 (G m + p))
   rw [V6] at hs
   go_roundw
   case rel =>
    refine ⟨k + 1, _, by omega, ?_, ?_, (Z9 T (by omega) _ _).drew, Y9 (J8 J (by omega) _ _), Y9 (J8 N (by omega) _ _), Y9 (J8 M (by omega) _ _), Y9 hs⟩
    ·
     (first | rfl | go_num)
    refine Lib.hid ⟨HC.out.1, ?_, HC.out.2.2⟩
    rw [show (16 * i + (k + 1)) * 4294836225 = (16 * i + k) * 4294836225 + 4294836225 by omega]; exact HC.out.2.1
   case measure => simp [intOf]; omega
end
end Go.Proofs.YtejkmhgkkibafaaGreatDoor.S8
