/- custumalref06.L, less and Add. Conditions: the parts are parts of 16 bits. custumalref06.Add. Conditions: both numbers are below the order. -/
import Derived.Test.YtefpoollmbmkfaaDoorNa
import Derived.Test.YtefpoollmbmkfaaDoorGa
set_option linter.unusedSimpArgs false
set_option linter.unusedVariables false
namespace Go.Proofs.YtefpoollmbmkfaaDoor.Sc
set_option maxHeartbeats 4000000
set_option maxRecDepth 100000
open Go.RowKit

theorem Y97 : (List.range 16).map (Q2 LL) = [54253, 23797, 25370, 22546, 40150, 41719, 63966, 5342, 0, 0, 0, 0, 0, 0, 0, 4096] := by decide +kernel
theorem Y98 : A16 LL = .agg #[.int .i64 54253, .int .i64 23797, .int .i64 25370, .int .i64 22546, .int .i64 40150, .int .i64 41719, .int .i64 63966, .int .i64 5342, .int .i64 0, .int .i64 0, .int .i64 0, .int .i64 0, .int .i64 0, .int .i64 0, .int .i64 0, .int .i64 4096] := by
  unfold A16; rw [Z06, Y97]; rfl
theorem V2n (w : World) : Calls Tryd.prog 95 #[] w fun e w' => Ret (A16 LL) w w' e := by
  rw [Y98]
  go_enter Tryd.func95, Tryd.ntmps95
  go_wp2_with (first | (refine Q6y rfl 83 _ rfl #[.int .i64 54253, .int .i64 23797, .int .i64 25370, .int .i64 22546, .int .i64 40150, .int .i64 41719, .int .i64 63966, .int .i64 5342, .int .i64 0, .int .i64 0, .int .i64 0, .int .i64 0, .int .i64 0, .int .i64 0, .int .i64 0, .int .i64 4096] (by kernel_rfl) ?_) | (refine wpList_store_row rfl 83 (.tmp 0) (.tmp 1) rfl w.heap.size _ rfl rfl 83 _ (K0 _ _ rfl) (by kernel_rfl) (by kernel_rfl) (by rfl) ?_))
  refine bodyPost_ret (results_cell_row rfl _ _ w.heap.size _ _ _ _ rfl (K0 _ _ rfl) Tryd.underlying83 rfl (by kernel_rfl)) rfl ⟨rfl, ?_⟩
  exact bz

theorem Z4l (X Y : Nat) (hX : X < Z0) (hY : Y < Z0) (w : World) :
    Calls Tryd.prog 96 #[A16 X, A16 Y] w fun e w' => Ret (.bool (decide (X < Y))) w w' e := by
  unfold A16
  go_enter Tryd.func96, Tryd.ntmps96
  go_wp2
  go_loopw [5] (fun ii wr => ∃ k : Nat, k ≤ 16 ∧ ii = .int .i64 ((k : Int) - 1) ∧ Below w.heap.size w wr ∧
      Blk wr w.heap.size (J1 .i64 16 (Q2 X)) 83 ∧ Blk wr (w.heap.size + 1) (J1 .i64 16 (Q2 Y)) 83 ∧ Hid (∀ i, k ≤ i → i < 16 → Q2 X i = Q2 Y i))
    (fun ii _ => (intOf ii + 1).toNat)
  case atStart =>
    refine ⟨16, Nat.le_refl _, rfl, ?_, V3 (K0 _ _ rfl) _, K0 _ _ (by simp), fun i h1 h2 => by omega⟩
    exact bz
  case round =>
    obtain ⟨k, hk, rfl, hbel, b2, b3, HE⟩ := hrel
    by_cases hk0 : k = 0
    · subst hk0
      go_wp2
      go_ret
      refine ⟨?_, hbel⟩
      have : X = Y := Z3s hX hY (fun i hi => HE i (Nat.zero_le _) hi)
      rw [this, show decide (Y < Y) = false by simp]; rfl
    · obtain ⟨m, rfl⟩ : ∃ m, k = m + 1 := ⟨k - 1, by omega⟩
      have e1 : ((m + 1 : Nat) : Int) - 1 = (m : Int) := by omega
      rw [e1]
      clear hk0 e1
      have hm : (m : Int) < 16 := by omega
      have c2 := (Q8 b2 m).trans (J6 _ _ _ _ (by omega))
      have c3 := (Q8 b3 m).trans (J6 _ _ _ _ (by omega))
      by_cases he : Q2 X m = Q2 Y m
      · have HE' : Hid (∀ i, m ≤ i → i < 16 → Q2 X i = Q2 Y i) := fun i h1 h2 => by
          by_cases h : i = m
          · subst h; exact he
          · exact HE i (by omega) h2
        have hb : (Q2 X m != Q2 Y m) = false := by simp [he]
        clear he
        go_wp2
        go_region
        go_wp2
        go_roundw
        case rel => exact ⟨m, by omega, rfl, hbel.drew, V4 b2, V4 b3, HE'⟩
        case measure => (first | (simp [intOf]; done) | (simp [intOf]; omega))
      · have hb : (Q2 X m != Q2 Y m) = true := by simp [he]
        have hv : decide (X < Y) = decide (Q2 X m < Q2 Y m) := by
          rw [Bool.eq_iff_iff, decide_eq_true_iff, decide_eq_true_iff]
          constructor
          · intro h
            exact Int.lt_of_not_ge fun hge => by
              have := Q3p m (by omega) hY hX (fun i h1 h2 => (HE i (by omega) h2).symm) (by omega)
              omega
          · exact Q3p m (by omega) hX hY (fun i h1 h2 => HE i (by omega) h2)
        have HV := Lib.hid hv
        clear he hv
        go_wp2
        go_region
        go_wp2
        go_region
        go_wp2
        go_ret
        refine ⟨by rw [HV.out]; rfl, ?_⟩
        exact bz
end Go.Proofs.YtefpoollmbmkfaaDoor.Sc

namespace Go.Proofs.YtefpoollmbmkfaaDoor.Sc
set_option maxHeartbeats 4000000
set_option maxRecDepth 100000
open Go.RowKit

theorem J62 (X Y k : Nat) (h : Y ≤ X) :
    IntKind.i64.wrap (Q2 X k - Q2 Y k) = Q2 X k - Q2 Y k ∧
    ((J27 X Y (k + 1) = 0 ∧ IntKind.i64.wrap (Q2 X k - Q2 Y k - (J27 X Y k : Int)) = Q2 (X - Y) k ∧ decide (Q2 (X - Y) k < 0) = false) ∨
     (J27 X Y (k + 1) = 1 ∧ ∃ e : Int, IntKind.i64.wrap (Q2 X k - Q2 Y k - (J27 X Y k : Int)) = e ∧ decide (e < 0) = true ∧ IntKind.i64.wrap (e + 65536) = Q2 (X - Y) k)) := by
  have r1 := J0q X k
  have r2 := J0q Y k
  have r3 := J70 X Y k
  have r4 := J0q (X - Y) k
  have r5 := J70 X Y (k + 1)
  have hs := Q4v X Y k h
  refine ⟨IntWalk.i64_in _ (by omega), ?_⟩
  rw [IntWalk.i64_in _ (show _ by omega), hs]
  rcases Nat.lt_or_ge (J27 X Y (k + 1)) 1 with h0 | h1
  · refine .inl ⟨by omega, ?_, decide_eq_false (by omega)⟩
    rw [show J27 X Y (k + 1) = 0 by omega]; omega
  · refine .inr ⟨by omega, _, rfl, decide_eq_true ?_, ?_⟩
    · rw [show J27 X Y (k + 1) = 1 by omega]; omega
    · rw [show J27 X Y (k + 1) = 1 by omega, IntWalk.i64_in _ (by omega)]; omega
theorem Z0h (X Y k : Nat) : bits .and .i64 (Q2 X k + Q2 Y k + (J4y X Y k : Int)) 65535 = Q2 (X + Y) k ∧ (Q2 X k + Q2 Y k + (J4y X Y k : Int)) / 65536 = (J4y X Y (k + 1) : Int) := by
  have r1 := J0q X k
  have r2 := J0q Y k
  have r3 := Q5t X Y k
  have r4 := J0q (X + Y) k
  have h := Q5u X Y k
  rw [Q70 _ (by omega) (by omega)]
  omega

theorem Y0i (X Y : Nat) (hX : X < LL) (hY : Y < LL) (w : World) :
    Calls Tryd.prog 53 #[A16 X, A16 Y] w fun e w' => Ret (A16 ((X + Y) % LL)) w w' e := by
  obtain ⟨S, hS⟩ : ∃ S, S = X + Y := ⟨_, rfl⟩
  have hS3 : S % LL = if S < LL then S else S - LL := by
    by_cases h : S < LL
    · rw [if_pos h, Nat.mod_eq_of_lt h]
    · rw [if_neg h, Nat.mod_eq_sub_mod (by omega), Nat.mod_eq_of_lt (by omega)]
  have hS4 : S < Z0 := by unfold LL at hX hY; unfold Z0; omega
  rw [← hS]
  have HS := Lib.hid hS
  have HS3 := Lib.hid hS3
  have HS4 := Lib.hid hS4
  have HX := Lib.hid hX
  have HY := Lib.hid hY
  clear hS hS3 hS4 hX hY
  unfold A16
  go_enter Tryd.func53, Tryd.ntmps53
  go_wp2
  go_loopw [5, 6] (fun oo ii wr => ∃ k : Nat, k ≤ 16 ∧ ii = .int .i64 k ∧ oo = .int .i64 (J4y X Y k) ∧ Below w.heap.size w wr ∧
      Blk wr w.heap.size (J1 .i64 16 (J6n k (Q2 S) (Q2 X))) 83 ∧ Blk wr (w.heap.size + 1) (J1 .i64 16 (Q2 Y)) 83 ∧ Blk wr (w.heap.size + 2) (J1 .i64 16 (fun _ => 0)) 83)
    (fun _ ii _ => (16 - intOf ii).toNat)
  case atStart =>
    refine ⟨0, by omega, rfl, by rw [Z1p]; rfl, ?_, ?_, V3 (K0 _ _ (by simp)) _, K0 _ _ (by simp)⟩
    · exact bz
    · rw [J3y]; exact V3 (V3 (K0 _ _ rfl) _) _
  case round =>
    obtain ⟨k, hk, rfl, rfl, hbel, b1, b2, b3⟩ := hrel
    by_cases hk16 : k = 16
    · subst hk16
      rw [J52] at b1
      have hS4 := HS4.out
      have off0.size := hbel.size
      have sb := J5 b3
      by_cases hlt : S < LL
      · have hd : decide (S < LL) = true := by simp [hlt]
        have hv : S % LL = S := by rw [HS3.out, if_pos hlt]
        clear HS3 hlt
        go_wp2_with (first
          | (go_at_call 95; refine (V2n _).mono ?_; rintro e w1 ⟨rfl, hb1⟩; unfold A16; have b1 := J2 b1 hb1; have b2 := J2 b2 hb1; have b3 := J2 b3 hb1)
          | (refine wpList_store_row rfl 83 (.tmp 8) (.tmp 31) rfl w1.heap.size _ rfl rfl 83 _ (K0 _ _ rfl) (by kernel_rfl) (by kernel_rfl) (Y7 _ _ _) ?_
             refine Q6w (fun W => Below w.heap.size w W ∧ Blk W w.heap.size (J1 .i64 16 (Q2 S)) 83 ∧ Blk W (w.heap.size + 2) (J1 .i64 16 (fun _ => 0)) 83 ∧ Blk W w1.heap.size (J1 .i64 16 (Q2 LL)) 83 ∧ Hid (w.heap.size + 2 < w1.heap.size)) ⟨(Y5 ((Z5 hbel hb1 hbel.size).alloc (by have := hbel.size; have := hb1.size; omega) _) (by have := hbel.size; have := hb1.size; omega) _), J4 (V3 b1 _) (by have := J5 b1; omega) _, J4 (V3 b3 _) (by have := J5 b3; omega) _, V0 (K0 _ _ rfl) _, Lib.hid (J5 b3)⟩ ?_
             rintro w2 ⟨hbel2, c1, c3, c4', HW⟩)
          | (refine wpList_load_row rfl 83 (.tmp 2) rfl w.heap.size rfl _ _ _ _ c1 Tryd.underlying83 rfl (by kernel_rfl) ?_)
          | (refine wpList_load_row rfl 83 (.tmp 8) rfl w1.heap.size rfl _ _ _ _ c4' Tryd.underlying83 rfl (by kernel_rfl) ?_)
          | (go_at_call 96; refine (Z4l S LL hS4 (by decide) _).mono ?_; rintro e w3 ⟨rfl, hb3⟩; have c1 := J2 c1 hb3; have c3 := J2 c3 hb3; have c4' := J2 c4' hb3; have hbel3 := Z5 hbel2 hb3 hbel2.size)
          | (refine wpList_store_row rfl 83 (.tmp 4) (.tmp 35) rfl (w.heap.size + 2) _ rfl rfl 83 _ c3 (by kernel_rfl) (by kernel_rfl) (Y7 _ _ _) ?_))
        refine bodyPost_ret (results_cell_row rfl _ _ (w.heap.size + 2) _ _ _ _ rfl (V0 c3 _) Tryd.underlying83 rfl (by kernel_rfl)) rfl ⟨by rw [hv], Y5 hbel3 (by omega) _⟩
      · have hd : decide (S < LL) = false := by simp [hlt]
        have hv : S % LL = S - LL := by rw [HS3.out, if_neg hlt]
        have hle := Nat.le_of_not_lt hlt
        clear HS3 hlt
        go_wp2_with (first
          | (go_at_call 95; refine (V2n _).mono ?_; rintro e w1 ⟨rfl, hb1⟩; unfold A16; have b1 := J2 b1 hb1; have b2 := J2 b2 hb1; have b3 := J2 b3 hb1)
          | (refine wpList_store_row rfl 83 (.tmp 8) (.tmp 31) rfl w1.heap.size _ rfl rfl 83 _ (K0 _ _ rfl) (by kernel_rfl) (by kernel_rfl) (Y7 _ _ _) ?_
             refine Q6w (fun W => Below w.heap.size w W ∧ Blk W w.heap.size (J1 .i64 16 (Q2 S)) 83 ∧ Blk W (w.heap.size + 2) (J1 .i64 16 (fun _ => 0)) 83 ∧ Blk W w1.heap.size (J1 .i64 16 (Q2 LL)) 83 ∧ Hid (w.heap.size + 2 < w1.heap.size)) ⟨(Y5 ((Z5 hbel hb1 hbel.size).alloc (by have := hbel.size; have := hb1.size; omega) _) (by have := hbel.size; have := hb1.size; omega) _), J4 (V3 b1 _) (by have := J5 b1; omega) _, J4 (V3 b3 _) (by have := J5 b3; omega) _, V0 (K0 _ _ rfl) _, Lib.hid (J5 b3)⟩ ?_
             rintro w2 ⟨hbel2, c1, c3, c4', HW⟩)
          | (refine wpList_load_row rfl 83 (.tmp 2) rfl w.heap.size rfl _ _ _ _ c1 Tryd.underlying83 rfl (by kernel_rfl) ?_)
          | (refine wpList_load_row rfl 83 (.tmp 8) rfl w1.heap.size rfl _ _ _ _ c4' Tryd.underlying83 rfl (by kernel_rfl) ?_)
          | (go_at_call 96; refine (Z4l S LL hS4 (by decide) _).mono ?_; rintro e w3 ⟨rfl, hb3⟩; have c1 := J2 c1 hb3; have c3 := J2 c3 hb3; have c4' := J2 c4' hb3; have hbel3 := Z5 hbel2 hb3 hbel2.size)
          )
        have HD := Lib.hid hv
        clear hv
        obtain ⟨D, hD⟩ : ∃ D, D = S - LL := ⟨_, rfl⟩
        rw [← hD] at HD
        have HDe := Lib.hid hD
        clear hD
        have HLe := Lib.hid hle
        clear hle
        refine Z05 (fun W => Below w.heap.size w W ∧ Blk W w.heap.size (J1 .i64 16 (Q2 S)) 83 ∧ Blk W (w.heap.size + 2) (J1 .i64 16 (fun _ => 0)) 83 ∧ Blk W w1.heap.size (J1 .i64 16 (Q2 LL)) 83) ⟨hbel3, c1, c3, c4'⟩ ?_
        rintro w4 ⟨hbel4, c1, c3, c4⟩
        go_loopw [9, 10] (fun oo ii wr => ∃ k : Nat, k ≤ 16 ∧ ii = .int .i64 k ∧ oo = .int .i64 (J27 S LL k) ∧ Below w.heap.size w wr ∧
            Blk wr w.heap.size (J1 .i64 16 (J6n k (Q2 D) (Q2 S))) 83 ∧ Blk wr (w.heap.size + 2) (J1 .i64 16 (fun _ => 0)) 83 ∧ Blk wr w1.heap.size (J1 .i64 16 (Q2 LL)) 83)
          (fun _ ii _ => (16 - intOf ii).toNat)
        case atStart => exact ⟨0, by omega, rfl, by rw [J8o]; rfl, hbel4, by rw [J3y]; exact c1, c3, c4⟩
        case round =>
          obtain ⟨k, hk, rfl, rfl, hbel, b1, b2, b3⟩ := hrel
          by_cases hk16 : k = 16
          · subst hk16
            rw [J52] at b1
            go_wp2_with (first
              | (refine wpList_load_row rfl 83 (.tmp 2) rfl w.heap.size rfl _ _ _ _ b1 Tryd.underlying83 rfl (by kernel_rfl) ?_)
              | (refine wpList_store_row rfl 83 (.tmp 4) (.tmp 56) rfl (w.heap.size + 2) _ rfl rfl 83 _ b2 (by kernel_rfl) (by kernel_rfl) (Y7 _ _ _) ?_))
            refine bodyPost_ret (results_cell_row rfl _ _ (w.heap.size + 2) _ _ _ _ rfl (V0 b2 _) Tryd.underlying83 rfl (by kernel_rfl)) rfl ⟨by rw [HD.out], Y5 hbel (by omega) _⟩
          · have hk' : (k : Int) < 16 := by omega
            have c1 := (Q8 b1 k).trans (J6 _ _ _ _ (by omega))
            rw [J6o] at c1
            have c2 := (Q8 b3 k).trans (J6 _ _ _ _ (by omega))
            have f1 := K5 b1
            have hlt' := HW.out
            have hp := J62 S LL k HLe.out
            rw [← HDe.out] at hp
            obtain ⟨d1, ⟨hb, d2, d3⟩ | ⟨hb, e, d2, d3, d4⟩⟩ := hp
            · clear hk16
              go_wp2
              go_region
              go_wp2
              go_roundw
              case rel =>
                have hs := V1 b1 k (.int .i64 (Q2 D k))
                rw [J4a] at hs
                refine ⟨k + 1, by omega, by go_num, by rw [hb]; rfl, ?_, V4 hs, V4 (J9 b2 (by omega) _ _), V4 (J9 b3 (by omega) _ _)⟩
                exact bz
              case measure => simp [intOf]; omega
            · clear hk16
              go_wp2
              go_region
              go_wp2
              go_roundw
              case rel =>
                have hs := V1 b1 k (.int .i64 (Q2 D k))
                rw [J4a] at hs
                refine ⟨k + 1, by omega, by go_num, by rw [hb]; rfl, ?_, V4 hs, V4 (J9 b2 (by omega) _ _), V4 (J9 b3 (by omega) _ _)⟩
                exact bz
              case measure => simp [intOf]; omega
    · have hk' : (k : Int) < 16 := by omega
      have c1 := (Q8 b1 k).trans (J6 _ _ _ _ (by omega))
      rw [J6o] at c1
      have c2 := (Q8 b2 k).trans (J6 _ _ _ _ (by omega))
      have f1 := K5 b1
      have r1 := J0q X k
      have r2 := J0q Y k
      have r3 := Q5t X Y k
      have d1 : IntKind.i64.wrap (Q2 X k + Q2 Y k) = Q2 X k + Q2 Y k := IntWalk.i64_in _ (by omega)
      have d2 : IntKind.i64.wrap (Q2 X k + Q2 Y k + (J4y X Y k : Int)) = Q2 X k + Q2 Y k + (J4y X Y k : Int) := IntWalk.i64_in _ (by omega)
      have hp := Z0h X Y k
      rw [← HS.out] at hp
      have h1 := hp.1
      have h2 := hp.2
      clear hp hk16
      go_wp2
      go_region
      go_wp2
      go_roundw
      case rel =>
        have hs := V1 b1 k (.int .i64 (Q2 S k))
        rw [J4a] at hs
        refine ⟨k + 1, by omega, by go_num, rfl, ?_, V4 hs, V4 (J9 b2 (by omega) _ _), V4 (J9 b3 (by omega) _ _)⟩
        exact bz
      case measure => simp [intOf]; omega
end Go.Proofs.YtefpoollmbmkfaaDoor.Sc
