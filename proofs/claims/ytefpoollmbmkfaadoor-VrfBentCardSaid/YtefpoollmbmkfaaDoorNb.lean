/- scalar.Neg. scalar.Mul. -/
import Derived.Test.YtefpoollmbmkfaaDoorNa
import Derived.Test.YtefpoollmbmkfaaDoorGa
set_option linter.unusedSimpArgs false
set_option linter.unusedVariables false
namespace Go.Proofs.YtefpoollmbmkfaaDoor.Sc
set_option maxHeartbeats 4000000
set_option maxRecDepth 100000
open Go.RowKit

theorem Y4z (f : Nat → Int) (b : Nat) (hf : ∀ j, j < 8 → K4 (f j)) (w : World) (hG : GL w) (hB : Blk w b (J1 .u64 8 f) 113) :
    Calls Tryd.prog 82 #[.slice (some ⟨b, 0, none⟩) 8 8] w fun e w' => Ret (L4 (J2u f 8 % LL)) w w' e :=
  Q91 f b 0 8 8 w hG (by omega) hf (fun j hj => by rw [Nat.zero_add]; exact (Q8 hB _).trans (J6 _ _ _ _ hj)) (J5 hB)

theorem J4l (V i : Nat) (h : i < 4) : (c4 V)[i]? = some (.int .u64 (lim V i)) := by
  have : i = 0 ∨ i = 1 ∨ i = 2 ∨ i = 3 := by omega
  rcases this with rfl | rfl | rfl | rfl <;> rfl

theorem Q81 (i k : Nat) (x y g c s cv : Int) (V V' Y Y' X B0 : Nat) (hx : K4 x) (hy : K4 y) (hg : K4 g) (hc : K4 c) (hs : K4 s) (hcv : K4 cv)
    (h5 : s + 18446744073709551616 * cv = x * y + g + c) (h1 : V' + g.toNat * 2 ^ (64 * (i + k)) = V + s.toNat * 2 ^ (64 * (i + k)))
    (h2 : V + c.toNat * 2 ^ (64 * (i + k)) = X + x.toNat * 2 ^ (64 * i) * Y) (hY : Y' = Y + y.toNat * 2 ^ (64 * k)) :
    V' + cv.toNat * 2 ^ (64 * (i + (k + 1))) = X + x.toNat * 2 ^ (64 * i) * Y' := by
  obtain ⟨x, rfl⟩ := Int.eq_ofNat_of_zero_le hx.1
  obtain ⟨y, rfl⟩ := Int.eq_ofNat_of_zero_le hy.1
  obtain ⟨g, rfl⟩ := Int.eq_ofNat_of_zero_le hg.1
  obtain ⟨c, rfl⟩ := Int.eq_ofNat_of_zero_le hc.1
  obtain ⟨s, rfl⟩ := Int.eq_ofNat_of_zero_le hs.1
  obtain ⟨d, rfl⟩ := Int.eq_ofNat_of_zero_le hcv.1
  simp only [Int.toNat_natCast] at *
  have h6 : s + 18446744073709551616 * d = x * y + g + c := by
    rw [← Int.natCast_mul] at h5
    generalize x * y = p at *
    omega
  have e1 : (2 : Nat) ^ (64 * (i + (k + 1))) = 18446744073709551616 * 2 ^ (64 * (i + k)) := by
    rw [show 64 * (i + (k + 1)) = 64 + 64 * (i + k) by omega, Nat.pow_add]
  have e2 : (2 : Nat) ^ (64 * (i + k)) = 2 ^ (64 * i) * 2 ^ (64 * k) := by rw [Nat.mul_add, Nat.pow_add]
  rw [hY, e1, Nat.mul_add (x * 2 ^ (64 * i))]
  have e3 : x * 2 ^ (64 * i) * (y * 2 ^ (64 * k)) = x * y * 2 ^ (64 * (i + k)) := by rw [e2, Nat.mul_mul_mul_comm]
  rw [e3]
  generalize 2 ^ (64 * (i + k)) = W at *
  have e4 : d * (18446744073709551616 * W) = 18446744073709551616 * d * W := by rw [Nat.mul_left_comm, Nat.mul_assoc]
  rw [e4]
  have h7 : s * W + 18446744073709551616 * d * W = x * y * W + g * W + c * W := by
    rw [← Nat.add_mul, h6, Nat.add_mul, Nat.add_mul]
  omega

theorem Q82 (B V' V C X Y W : Nat) {g : Int} (hB : B < Z0) (hg : g = 0) (h1 : V' + g.toNat * W = V + C) (h2 : V + C = X + Y * (B % 2 ^ (64 * 4))) : V' = X + Y * B := by
  rw [Nat.mod_eq_of_lt (show B < 2 ^ (64 * 4) from hB)] at h2
  rw [hg, Int.toNat_zero, Nat.zero_mul, Nat.add_zero] at h1
  rw [h1, h2]

theorem mul_c (A B : Nat) (hA : A < Z0) (hB : B < Z0) (w : World) (hG : GL w) :
    Calls Tryd.prog 50 #[L4 A, L4 B] w fun e w' => Ret (L4 (A * B % LL)) w w' e := by
  have HG := Lib.hid hG
  clear hG
  go_enter Tryd.func50, Tryd.ntmps50
  go_wp2
  go_loopw [16] (fun ii wr => ∃ i : Nat, i ≤ 4 ∧ ii = .int .i64 i ∧ Below w.heap.size w wr ∧
      Blk wr (w.heap.size + 1) (c4 B) 42 ∧ Blk wr (w.heap.size + 2) #[.int .u64 0, .int .u64 0, .int .u64 0, .int .u64 0] 42 ∧
      ∃ f : Nat → Int, Blk wr (w.heap.size + 3) (J1 .u64 8 f) 113 ∧ (∀ j, K4 (f j)) ∧ (∀ j, i + 4 ≤ j → f j = 0) ∧ J2u f 8 = A % 2 ^ (64 * i) * B)
    (fun ii _ => (4 - intOf ii).toNat)
  case atStart =>
    refine ⟨0, by omega, rfl, ?_, V3 (V3 (K0 _ _ (by simp)) _) _, V3 (K0 _ _ (by simp)) _, fun _ => 0, K0 _ _ (by simp), fun _ => ⟨by simp, by simp⟩, fun _ _ => rfl, ?_⟩
    · exact bz
    · rw [Q0d, Nat.mul_zero, Nat.pow_zero, Nat.mod_one, Nat.zero_mul]
  case round =>
    obtain ⟨i, hi, rfl, hbel, b1, b2, f, b3, hf, hf0, hv⟩ := hrel
    by_cases hi4 : i = 4
    · subst hi4
      have HV := Lib.hid hv
      clear hv
      have c2 := Q8 b2
      have f2 := K5 b2
      go_wp2_with (go_at_call 82; refine (Y4z f (w.heap.size + 3) (fun j _ => hf j) _ (J5a HG.out hbel HG.out.2.2.2.2) b3).mono ?_; rintro e w1 ⟨rfl, hb1⟩; have c21 := Q8 (J2 b2 hb1); have f21 := K5 (J2 b2 hb1))
      refine bodyPost_ret (v := L4 (J2u f 8 % LL)) (by simp only [results, Tryd.results50]; go_simp) rfl ⟨?_, ?_⟩
      · rw [HV.out, Nat.mod_eq_of_lt (show A < 2 ^ (64 * 4) from hA)]
      · have := hb1.size
        have := hbel.size
        exact bz
    · have hi3 : i < 4 := by omega
      have hi3' : (i : Int) < 4 := by omega
      have hix : ∀ W, (Instr.index 42 (.agg #[.int .u64 (lim A 0), .int .u64 (lim A 1), .int .u64 (lim A 2), .int .u64 (lim A 3)]) (.int .i64 (i : Int))).run Tryd.prog W = .ok (.int .u64 (lim A i)) W :=
        fun W => J2c W 42 39 4 .u64 .i64 (c4 A) i (lim A i) Tryd.underlying42 Tryd.underlying39 (by kernel_rfl) hi3 (J4l A i hi3)
      have c1 := Q8 b1
      clear hi4
      go_wp2
      clear c1
      have HF0 := Lib.hid hf0
      have HV := Lib.hid hv
      clear hf0 hv hix hi3'
      obtain ⟨wo, rfl⟩ : ∃ wo : World, wo = wr := ⟨_, rfl⟩
      go_loopw [8, 21] (fun cc kk wq => ∃ (k : Nat) (c : Int), k ≤ 4 ∧ kk = .int .i64 k ∧ cc = .int .u64 c ∧ K4 c ∧ Below w.heap.size w wq ∧
          Blk wq (w.heap.size + 1) (c4 B) 42 ∧ Blk wq (w.heap.size + 2) #[.int .u64 0, .int .u64 0, .int .u64 0, .int .u64 0] 42 ∧
          ∃ g : Nat → Int, Blk wq (w.heap.size + 3) (J1 .u64 8 g) 113 ∧ (∀ j, K4 (g j)) ∧ (∀ j, i + 4 ≤ j → g j = 0) ∧
            J2u g 8 + c.toNat * 2 ^ (64 * (i + k)) = A % 2 ^ (64 * i) * B + (lim A i).toNat * 2 ^ (64 * i) * (B % 2 ^ (64 * k)))
        (fun _ kk _ => (4 - intOf kk).toNat)
      case atStart =>
        refine ⟨0, 0, by omega, rfl, rfl, ⟨by omega, by omega⟩, hbel, b1, b2, f, b3, hf, HF0.out, ?_⟩
        rw [HV.out, Nat.mul_zero, Nat.pow_zero, Nat.mod_one]; simp
      case round =>
        obtain ⟨k, c, hk, rfl, rfl, hc, hbel, b1, b2, g, b3, hg, hg0, hv⟩ := hrel
        have HG0 := Lib.hid hg0
        have HV := Lib.hid hv
        clear hg0 hv HF0
        by_cases hk4 : k = 4
        · subst hk4
          have c3 := (Q8 b3 (i + 4)).trans (J6 _ _ _ _ (by omega))
          have f3 := K5 b3
          have hi8 : (i : Int) + 4 < 8 := by omega
          go_wp2
          have hs := V1 b3 (i + 4) (.int .u64 c)
          rw [J04] at hs
          go_roundw
          case rel =>
            refine ⟨i + 1, by omega, by go_num, ?_, J9 b1 (by omega) _ _, J9 b2 (by omega) _ _, upd g (i + 4) c, hs, ?_, ?_, ?_⟩
            · exact bz
            · intro j
              by_cases hj : j = i + 4
              · subst hj; rw [J31]; exact hc
              · rw [J19 _ _ _ _ hj]; exact hg j
            · intro j hj
              rw [J19 _ _ _ _ (by omega)]
              exact HG0.out j (by omega)
            · rw [J80, Nat.add_mul]
              exact Q82 B _ _ _ _ _ _ hB (HG0.out (i + 4) (by omega)) (J81 g (i + 4) c 8 (by omega)) HV.out
          case measure => simp [intOf]; omega
        · have hk3 : k < 4 := by omega
          have hk3' : (k : Int) < 4 := by omega
          clear hk4
          have hix : ∀ W, (Instr.index 42 (.agg #[.int .u64 (lim B 0), .int .u64 (lim B 1), .int .u64 (lim B 2), .int .u64 (lim B 3)]) (.int .i64 (k : Int))).run Tryd.prog W = .ok (.int .u64 (lim B k)) W :=
            fun W => J2c W 42 39 4 .u64 .i64 (c4 B) k (lim B k) Tryd.underlying42 Tryd.underlying39 (by kernel_rfl) hk3 (J4l B k hk3)
          obtain ⟨m1, m2, m3, m4, m5⟩ := Q4q (lim A i) (lim B k) (g (i + k)) c (J1h A i) (J1h B k) (hg _) hc
          have a1 := J23 (J7o (lim A i) (lim B k)) (g (i + k)) 0 m1 (hg _) (by omega) (by omega)
          have a2 := J23 (adS (J7o (lim A i) (lim B k)) (g (i + k)) 0) c 0 m2 hc (by omega) (by omega)
          obtain ⟨sv, hsv⟩ : ∃ sv, sv = adS (adS (J7o (lim A i) (lim B k)) (g (i + k)) 0) c 0 := ⟨_, rfl⟩
          rw [← hsv] at m4 m5 a2
          have M5 := Lib.hid m5
          clear m5 hsv
          have c3 := (Q8 b3 (i + k)).trans (J6 _ _ _ _ (by omega))
          have f3 := K5 b3
          have hi8 : (i : Int) + (k : Int) < 8 := by omega
          go_wp2_with (go_at_call 94; refine (Q83 _ _ (J1h A i) (J1h B k) _).mono ?_; rintro e w' ⟨rfl, rfl⟩)
          have hs := V1 b3 (i + k) (.int .u64 sv)
          rw [J04] at hs
          have h1 := J81 g (i + k) sv 8 (by omega)
          have h2 := HV.out
          have h5 := M5.out
          clear HV M5 a1 a2 c3 f3 hix
          go_roundw
          case rel =>
            (repeat apply Exists.intro)
            refine ⟨?_, rfl⟩
            refine ⟨k + 1, _, by omega, by go_num, rfl, m3, ?_, J9 b1 (by omega) _ _, J9 b2 (by omega) _ _, upd g (i + k) sv, hs, ?_, ?_, ?_⟩
            · exact bz
            · intro j
              by_cases hj : j = i + k
              · subst hj; rw [J31]; exact m4
              · rw [J19 _ _ _ _ hj]; exact hg j
            · intro j hj
              rw [J19 _ _ _ _ (by omega)]
              exact HG0.out j hj
            · exact Q81 i k (lim A i) (lim B k) (g (i + k)) c sv _ _ _ _ _ _ 0 (J1h A i) (J1h B k) (hg _) hc m4 m3 h5 h1 h2 (J80 B k)
          case measure => simp [intOf]; omega
end Go.Proofs.YtefpoollmbmkfaaDoor.Sc
