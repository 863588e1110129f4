/- Contracts and plain laws that superChecks_holds rests on. Conditions: the variables' cells hold the numbers of the program's text. -/
import Derived.Test.YtejkmhgkkibafaaGreatDoorJ6
import Derived.Test.YtejkmhgkkibafaaGreatDoorJ3
import Derived.Test.YtejkmhgkkibafaaGreatDoorJ8
import Derived.Test.YtejkmhgkkibafaaGreatDoorJ17
import Derived.Test.YtejkmhgkkibafaaGreatDoorGa
import Derived.Deep.AppendLies
import Derived.Deep.RegionHeld3
import Derived.Test.YtejkmhgkkibafaaGreatDoorJ18
import Derived.Test.YtejkmhgkkibafaaGreatDoorGc
import Derived.Test.YtejkmhgkkibafaaGreatDoorJ19
open Go.RowKit
set_option maxRecDepth 100000
set_option linter.unusedSimpArgs false
set_option linter.unusedVariables false
namespace Go.Proofs.YtejkmhgkkibafaaGreatDoor.S8.Sc
section
set_option maxHeartbeats 4000000

theorem Y83 : (List.range 16).map (Q5 LL) = [54253, 23797, 25370, 22546, 40150, 41719, 63966, 5342, 0, 0, 0, 0, 0, 0, 0, 4096] := by decide +kernel
theorem Y84 : A16 LL = .agg #[.int .i64 54253, .int .i64 23797, .int .i64 25370, .int .i64 22546, .int .i64 40150, .int .i64 41719, .int .i64 63966, .int .i64 5342, .int .i64 0, .int .i64 0, .int .i64 0, .int .i64 0, .int .i64 0, .int .i64 0, .int .i64 0, .int .i64 4096] := by
  unfold A16; rw [Q6s, Y83]; rfl
theorem V1i (w : World) : Calls Tryz.prog 153 #[] w fun e w' => K6 (A16 LL) w w' e := by
  rw [Y84]
  go_enter Tryz.func153, Tryz.ntmps153
  go_wp2_with (first | (refine Q3t rfl 121 _ rfl #[.int .i64 54253, .int .i64 23797, .int .i64 25370, .int .i64 22546, .int .i64 40150, .int .i64 41719, .int .i64 63966, .int .i64 5342, .int .i64 0, .int .i64 0, .int .i64 0, .int .i64 0, .int .i64 0, .int .i64 0, .int .i64 0, .int .i64 4096] (by kernel_rfl) ?_) | (refine wpList_store_row rfl 121 (.tmp 0) (.tmp 1) rfl w.heap.size _ rfl rfl 121 _ (V2 _ _ rfl) (by kernel_rfl) (by kernel_rfl) (by rfl) ?_))
  refine bodyPost_ret (results_cell_row rfl _ _ w.heap.size _ _ _ _ rfl (V2 _ _ rfl) Tryz.underlying121 rfl (by kernel_rfl)) rfl ⟨rfl, ?_⟩
  exact bz

theorem Q67 (X Y : Nat) (hX : X < Q7) (hY : Y < Q7) (w : World) :
    Calls Tryz.prog 154 #[A16 X, A16 Y] w fun e w' => K6 (.bool (decide (X < Y))) w w' e := by
  unfold A16
  go_enter Tryz.func154, Tryz.ntmps154
  go_wp2
  go_loopw [5] (fun ii wr => ∃ k : Nat, k ≤ 16 ∧ ii = .int .i64 ((k : Int) - 1) ∧ Below w.heap.size w wr ∧
      Blk wr w.heap.size (J0 .i64 16 (Q5 X)) 121 ∧ Blk wr (w.heap.size + 1) (J0 .i64 16 (Q5 Y)) 121 ∧ Hid (∀ i, k ≤ i → i < 16 → Q5 X i = Q5 Y i))
    (fun ii _ => (intOf ii + 1).toNat)
  case atStart =>
    refine ⟨16, Nat.le_refl _, rfl, ?_, Y8 (V2 _ _ rfl) _, V2 _ _ (by simp), fun i h1 h2 => by omega⟩
    exact bz
  case round =>
    obtain ⟨k, hk, rfl, D, b2, b3, HE⟩ := hrel
    by_cases G : k = 0
    · subst G
      go_wp2
      go_ret
      refine ⟨?_, D⟩
      have : X = Y := Z0l hX hY (fun i hi => HE i (Nat.zero_le _) hi)
      rw [this, show decide (Y < Y) = false by simp]; rfl
    obtain ⟨m, rfl⟩ : ∃ m, k = m + 1 := ⟨k - 1, by omega⟩
    have e1 : ((m + 1 : Nat) : Int) - 1 = (m : Int) := by omega
    rw [e1]
    clear G e1
    have hm : (m : Int) < 16 := by omega
    have c2 := (Q0 b2 m).trans (J4 _ _ _ _ (by omega))
    have c3 := (Q0 b3 m).trans (J4 _ _ _ _ (by omega))
    by_cases he : Q5 X m = Q5 Y m
    · have HE' : Hid (∀ i, m ≤ i → i < 16 → Q5 X i = Q5 Y i) := fun i h1 h2 => by
        by_cases h : i = m
        · subst h; exact he
        exact HE i (by omega) h2
      have hb : (Q5 X m != Q5 Y m) = false := by simp [he]
      clear he
      go_wp2
      go_region
      go_wp2
      go_roundw
      case rel => exact ⟨m, by omega, rfl, D.drew, Y9 b2, Y9 b3, HE'⟩
      case measure => (first | (simp [intOf]; done) | (simp [intOf]; omega))
    have hb : (Q5 X m != Q5 Y m) = true := by simp [he]
    have hv : decide (X < Y) = decide (Q5 X m < Q5 Y m) := by
      rw [Bool.eq_iff_iff, decide_eq_true_iff, decide_eq_true_iff]
      constructor
      · intro h
        exact Int.lt_of_not_ge fun J => by
          have := Q0o m (by omega) hY hX (fun i h1 h2 => (HE i (by omega) h2).symm) (by omega)
          omega
      exact Q0o m (by omega) hX hY (fun i h1 h2 => HE i (by omega) h2)
    have HV := Lib.hid hv
    clear he hv
    go_wp2
    go_region
    go_wp2
    go_region
    go_wp2
    go_ret
    refine ⟨by rw [HV.out]; rfl, ?_⟩
    exact bz
end

section
set_option maxHeartbeats 4000000

theorem J4g (X Y k : Nat) (h : Y ≤ X) :
    IntKind.i64.wrap (Q5 X k - Q5 Y k) = Q5 X k - Q5 Y k ∧
    ((J19 X Y (k + 1) = 0 ∧ IntKind.i64.wrap (Q5 X k - Q5 Y k - (J19 X Y k : Int)) = Q5 (X - Y) k ∧ decide (Q5 (X - Y) k < 0) = false) ∨
     (J19 X Y (k + 1) = 1 ∧ ∃ e : Int, IntKind.i64.wrap (Q5 X k - Q5 Y k - (J19 X Y k : Int)) = e ∧ decide (e < 0) = true ∧ IntKind.i64.wrap (e + 65536) = Q5 (X - Y) k)) := by
  have r1 := J03 X k
  have r2 := J03 Y k
  have r3 := J4y X Y k
  have r4 := J03 (X - Y) k
  have r5 := J4y X Y (k + 1)
  have hs := Q1u X Y k h
  refine ⟨IntWalk.i64_in _ (by omega), ?_⟩
  rw [IntWalk.i64_in _ (show _ by omega), hs]
  rcases Nat.lt_or_ge (J19 X Y (k + 1)) 1 with h0 | h1
  · refine .inl ⟨by omega, ?_, decide_eq_false (by omega)⟩
    rw [show J19 X Y (k + 1) = 0 by omega]; omega
  refine .inr ⟨by omega, _, rfl, decide_eq_true ?_, ?_⟩
  · rw [show J19 X Y (k + 1) = 1 by omega]; omega
  rw [show J19 X Y (k + 1) = 1 by omega, IntWalk.i64_in _ (by omega)]; omega
theorem Q7x (X Y k : Nat) : bits .and .i64 (Q5 X k + Q5 Y k + (J3f X Y k : Int)) 65535 = Q5 (X + Y) k ∧ (Q5 X k + Q5 Y k + (J3f X Y k : Int)) / 65536 = (J3f X Y (k + 1) : Int) := by
  have r1 := J03 X k
  have r2 := J03 Y k
  have r3 := Q1s X Y k
  have r4 := J03 (X + Y) k
  have h := Q1t X Y k
  rw [Q3x _ (by omega) (by omega)]
  omega

theorem Z7s (X Y : Nat) (hX : X < LL) (hY : Y < LL) (w : World) :
    Calls Tryz.prog 109 #[A16 X, A16 Y] w fun e w' => K6 (A16 ((X + Y) % LL)) w w' e := by
  obtain ⟨S, hS⟩ : ∃ S, S = X + Y := ⟨_, rfl⟩
  have δ : S % LL = if S < LL then S else S - LL := by
    by_cases h : S < LL
    · rw [if_pos h, Nat.mod_eq_of_lt h]
    rw [if_neg h, Nat.mod_eq_sub_mod (by omega), Nat.mod_eq_of_lt (by omega)]
  have Z : S < Q7 := by unfold LL at hX hY; unfold Q7; omega
  rw [← hS]
  have HS := Lib.hid hS
  have α := Lib.hid δ
  have ε := Lib.hid Z
  have HX := Lib.hid hX
  have HY := Lib.hid hY
  clear hS δ Z hX hY
  unfold A16
  go_enter Tryz.func109, Tryz.ntmps109
  go_wp2
  go_loopw [5, 6] (fun oo ii wr => ∃ k : Nat, k ≤ 16 ∧ ii = .int .i64 k ∧ oo = .int .i64 (J3f X Y k) ∧ Below w.heap.size w wr ∧
      Blk wr w.heap.size (J0 .i64 16 (J4r k (Q5 S) (Q5 X))) 121 ∧ Blk wr (w.heap.size + 1) (J0 .i64 16 (Q5 Y)) 121 ∧ Blk wr (w.heap.size + 2) (J0 .i64 16 (fun _ => 0)) 121)
    (fun _ ii _ => (16 - intOf ii).toNat)
  case atStart =>
    refine ⟨0, by omega, rfl, by rw [Q8v]; rfl, ?_, ?_, Y8 (V2 _ _ (by simp)) _, V2 _ _ (by simp)⟩
    · exact bz
    rw [J2q]; exact Y8 (Y8 (V2 _ _ rfl) _) _
  case round =>
    obtain ⟨k, hk, rfl, rfl, G, b1, b2, b3⟩ := hrel
    by_cases R : k = 16
    · subst R
      rw [J3n] at b1
      have Z := ε.out
      have θ.size := G.size
      have sb := J6 b3
      by_cases U : S < LL
      · have hd : decide (S < LL) = true := by simp [U]
        have hv : S % LL = S := by rw [α.out, if_pos U]
        clear α U
        go_wp2_with (first
          | (go_at_call 153; refine (V1i _).mono ?_; rintro e w1 ⟨rfl, J⟩; unfold A16; have b1 := J1 b1 J; have b2 := J1 b2 J; have b3 := J1 b3 J)
          | (refine wpList_store_row rfl 121 (.tmp 8) (.tmp 31) rfl w1.heap.size _ rfl rfl 121 _ (V2 _ _ rfl) (by kernel_rfl) (by kernel_rfl) (Z0 _ _ _) ?_
             refine Q3r (fun W => Below w.heap.size w W ∧ Blk W w.heap.size (J0 .i64 16 (Q5 S)) 121 ∧ Blk W (w.heap.size + 2) (J0 .i64 16 (fun _ => 0)) 121 ∧ Blk W w1.heap.size (J0 .i64 16 (Q5 LL)) 121 ∧ Hid (w.heap.size + 2 < w1.heap.size)) ⟨(Z6 ((Q9 G J G.size).alloc (by have := G.size; have := J.size; omega) _) (by have := G.size; have := J.size; omega) _), J3 (Y8 b1 _) (by have := J6 b1; omega) _, J3 (Y8 b3 _) (by have := J6 b3; omega) _, Y6 (V2 _ _ rfl) _, Lib.hid (J6 b3)⟩ ?_
             rintro w2 ⟨M, c1, c3, T, HW⟩)
          | (refine wpList_load_row rfl 121 (.tmp 2) rfl w.heap.size rfl _ _ _ _ c1 Tryz.underlying121 rfl (by kernel_rfl) ?_)
          | (refine wpList_load_row rfl 121 (.tmp 8) rfl w1.heap.size rfl _ _ _ _ T Tryz.underlying121 rfl (by kernel_rfl) ?_)
          | (go_at_call 154; refine (Q67 S LL Z (by decide) _).mono ?_; rintro e w3 ⟨rfl, N⟩; have c1 := J1 c1 N; have c3 := J1 c3 N; have T := J1 T N; have V := Q9 M N M.size)
          | (refine wpList_store_row rfl 121 (.tmp 4) (.tmp 35) rfl (w.heap.size + 2) _ rfl rfl 121 _ c3 (by kernel_rfl) (by kernel_rfl) (Z0 _ _ _) ?_))
        refine bodyPost_ret (results_cell_row rfl _ _ (w.heap.size + 2) _ _ _ _ rfl (Y6 c3 _) Tryz.underlying121 rfl (by kernel_rfl)) rfl ⟨by rw [hv], Z6 V (by omega) _⟩
      have hd : decide (S < LL) = false := by simp [U]
      have hv : S % LL = S - LL := by rw [α.out, if_neg U]
      have γ := Nat.le_of_not_lt U
      clear α U
      go_wp2_with (first
        | (go_at_call 153; refine (V1i _).mono ?_; rintro e w1 ⟨rfl, J⟩; unfold A16; have b1 := J1 b1 J; have b2 := J1 b2 J; have b3 := J1 b3 J)
        | (refine wpList_store_row rfl 121 (.tmp 8) (.tmp 31) rfl w1.heap.size _ rfl rfl 121 _ (V2 _ _ rfl) (by kernel_rfl) (by kernel_rfl) (Z0 _ _ _) ?_
           refine Q3r (fun W => Below w.heap.size w W ∧ Blk W w.heap.size (J0 .i64 16 (Q5 S)) 121 ∧ Blk W (w.heap.size + 2) (J0 .i64 16 (fun _ => 0)) 121 ∧ Blk W w1.heap.size (J0 .i64 16 (Q5 LL)) 121 ∧ Hid (w.heap.size + 2 < w1.heap.size)) ⟨(Z6 ((Q9 G J G.size).alloc (by have := G.size; have := J.size; omega) _) (by have := G.size; have := J.size; omega) _), J3 (Y8 b1 _) (by have := J6 b1; omega) _, J3 (Y8 b3 _) (by have := J6 b3; omega) _, Y6 (V2 _ _ rfl) _, Lib.hid (J6 b3)⟩ ?_
           rintro w2 ⟨M, c1, c3, T, HW⟩)
        | (refine wpList_load_row rfl 121 (.tmp 2) rfl w.heap.size rfl _ _ _ _ c1 Tryz.underlying121 rfl (by kernel_rfl) ?_)
        | (refine wpList_load_row rfl 121 (.tmp 8) rfl w1.heap.size rfl _ _ _ _ T Tryz.underlying121 rfl (by kernel_rfl) ?_)
        | (go_at_call 154; refine (Q67 S LL Z (by decide) _).mono ?_; rintro e w3 ⟨rfl, N⟩; have c1 := J1 c1 N; have c3 := J1 c3 N; have T := J1 T N; have V := Q9 M N M.size)
        )
      have HD := Lib.hid hv
      clear hv
      obtain ⟨D, hD⟩ : ∃ D, D = S - LL := ⟨_, rfl⟩
      rw [← hD] at HD
      have η := Lib.hid hD
      clear hD
      have ζ := Lib.hid γ
      clear γ
      refine Q6r (fun W => Below w.heap.size w W ∧ Blk W w.heap.size (J0 .i64 16 (Q5 S)) 121 ∧ Blk W (w.heap.size + 2) (J0 .i64 16 (fun _ => 0)) 121 ∧ Blk W w1.heap.size (J0 .i64 16 (Q5 LL)) 121) ⟨V, c1, c3, T⟩ ?_
      rintro w4 ⟨β, c1, c3, c4⟩
      go_loopw [9, 10] (fun oo ii wr => ∃ k : Nat, k ≤ 16 ∧ ii = .int .i64 k ∧ oo = .int .i64 (J19 S LL k) ∧ Below w.heap.size w wr ∧
          Blk wr w.heap.size (J0 .i64 16 (J4r k (Q5 D) (Q5 S))) 121 ∧ Blk wr (w.heap.size + 2) (J0 .i64 16 (fun _ => 0)) 121 ∧ Blk wr w1.heap.size (J0 .i64 16 (Q5 LL)) 121)
        (fun _ ii _ => (16 - intOf ii).toNat)
      case atStart => exact ⟨0, by omega, rfl, by rw [J6h]; rfl, β, by rw [J2q]; exact c1, c3, c4⟩
      case round =>
        obtain ⟨k, hk, rfl, rfl, G, b1, b2, b3⟩ := hrel
        by_cases R : k = 16
        · subst R
          rw [J3n] at b1
          go_wp2_with (first
            | (refine wpList_load_row rfl 121 (.tmp 2) rfl w.heap.size rfl _ _ _ _ b1 Tryz.underlying121 rfl (by kernel_rfl) ?_)
            | (refine wpList_store_row rfl 121 (.tmp 4) (.tmp 56) rfl (w.heap.size + 2) _ rfl rfl 121 _ b2 (by kernel_rfl) (by kernel_rfl) (Z0 _ _ _) ?_))
          refine bodyPost_ret (results_cell_row rfl _ _ (w.heap.size + 2) _ _ _ _ rfl (Y6 b2 _) Tryz.underlying121 rfl (by kernel_rfl)) rfl ⟨by rw [HD.out], Z6 G (by omega) _⟩
        have hk' : (k : Int) < 16 := by omega
        have c1 := (Q0 b1 k).trans (J4 _ _ _ _ (by omega))
        rw [J4s] at c1
        have c2 := (Q0 b3 k).trans (J4 _ _ _ _ (by omega))
        have f1 := V5 b1
        have hlt' := HW.out
        have hp := J4g S LL k ζ.out
        rw [← η.out] at hp
        obtain ⟨d1, ⟨hb, d2, d3⟩ | ⟨hb, e, d2, d3, d4⟩⟩ := hp
        · clear R
          go_wp2
          go_region
          go_wp2
          go_roundw
          case rel =>
            have hs := Y5 b1 k (.int .i64 (Q5 D k))
            rw [J2y] at hs
            refine ⟨k + 1, by omega, by go_num, by rw [hb]; rfl, ?_, Y9 hs, Y9 (J8 b2 (by omega) _ _), Y9 (J8 b3 (by omega) _ _)⟩
            exact bz
          case measure => simp [intOf]; omega
        clear R
        go_wp2
        go_region
        go_wp2
        go_roundw
        case rel =>
          have hs := Y5 b1 k (.int .i64 (Q5 D k))
          rw [J2y] at hs
          refine ⟨k + 1, by omega, by go_num, by rw [hb]; rfl, ?_, Y9 hs, Y9 (J8 b2 (by omega) _ _), Y9 (J8 b3 (by omega) _ _)⟩
          exact bz
        case measure => simp [intOf]; omega
    have hk' : (k : Int) < 16 := by omega
    have c1 := (Q0 b1 k).trans (J4 _ _ _ _ (by omega))
    rw [J4s] at c1
    have c2 := (Q0 b2 k).trans (J4 _ _ _ _ (by omega))
    have f1 := V5 b1
    have r1 := J03 X k
    have r2 := J03 Y k
    have r3 := Q1s X Y k
    have d1 : IntKind.i64.wrap (Q5 X k + Q5 Y k) = Q5 X k + Q5 Y k := IntWalk.i64_in _ (by omega)
    have d2 : IntKind.i64.wrap (Q5 X k + Q5 Y k + (J3f X Y k : Int)) = Q5 X k + Q5 Y k + (J3f X Y k : Int) := IntWalk.i64_in _ (by omega)
    have hp := Q7x X Y k
    rw [← HS.out] at hp
    have h1 := hp.1
    have h2 := hp.2
    clear hp R
    go_wp2
    go_region
    go_wp2
    go_roundw
    case rel =>
      have hs := Y5 b1 k (.int .i64 (Q5 S k))
      rw [J2y] at hs
      refine ⟨k + 1, by omega, by go_num, rfl, ?_, Y9 hs, Y9 (J8 b2 (by omega) _ _), Y9 (J8 b3 (by omega) _ _)⟩
      exact bz
    case measure => simp [intOf]; omega
end

section
set_option maxHeartbeats 1000000

end

section
set_option maxHeartbeats 1000000

theorem Q5x (X k : Nat) : IntKind.u8.wrap (Q5 X k) = Q3 X (2 * k) ∧ IntKind.u8.wrap (Q5 X k / 256) = Q3 X (2 * k + 1) := by
  unfold Q5 Q3
  rw [IntKind.wrap_u8, IntKind.wrap_u8, show 8 * (2 * k) = 16 * k by omega, show 8 * (2 * k + 1) = 16 * k + 8 by omega, Nat.pow_add, ← Nat.div_div_eq_div_mul]
  generalize X / 2 ^ (16 * k) = x
  constructor <;> omega

theorem rbytes_c (X : Nat) (w : World) : Calls Tryz.prog 63 #[A16 X] w fun e w' => K6 (Q3l 32 (Q3 X)) w w' e := by
  obtain ⟨i0, hi, T, U, V⟩ := info_parts Q72
  unfold A16
  go_enter Tryz.func63, Tryz.ntmps63
  go_wp2
  go_loopw [3, 4] (fun v ii wr => ∃ k : Nat, k ≤ 16 ∧ ii = .int .i64 k ∧ Below w.heap.size w wr ∧ wr.ownsRow (w.heap.size + 1) 5 1 v (2 * k) (J5a .u8 (2 * k) (Q3 X)) ∧
      Blk wr w.heap.size (J0 .i64 16 (Q5 X)) 121)
    (fun _ ii _ => (16 - intOf ii).toNat)
  case atStart =>
    refine ⟨0, by omega, rfl, ?_, ?_, Y8 (V2 _ _ rfl) _⟩
    · exact bz
    exact ⟨rfl, .inr ⟨w.heap.size + 1, 0, #[], rfl, Nat.le_refl _, V2 _ _ (by simp), Nat.le_refl _, by decide, rfl, rfl⟩⟩
  case round =>
    obtain ⟨k, hk, rfl, G, D, b1⟩ := hrel
    by_cases S : k = 16
    · subst S
      have hc := J7b Tryz.underlying22 Tryz.underlying5 D 9 Tryz.underlying9
      go_wp2
      go_ret
      exact ⟨rfl, G⟩
    have hk' : (k : Int) < 16 := by omega
    have c1 := (Q0 b1 k).trans (J4 _ _ _ _ (by omega))
    have r1 := J03 X k
    obtain ⟨β, Z⟩ := Q5x X k
    have R.size := G.size
    have HB := Lib.hid G.size
    have ag : u3.ownBlock ≠ some w.heap.size := fun h => by have := (D.lt _ h).1; omega
    have M : ∀ k, u3.ownBlock = some k → w.heap.size + 1 ≤ k := fun k hk => (D.lt k hk).1
    have HO := Lib.hid M
    clear M
    go_wp2_with fail
    go_region_held3 (fun W => W.cell? ⟨w.heap.size, k, none⟩ = some (.int .i64 (Q5 X k)))
      (first
        | go_keep
        | (rw [J.cell_far _ (by simp; omega) (Ne.symm ag)]; first | assumption | (simp [*]; done)))
      ((refine step_append_lies _ (by rfl) (.tmp 10) (.tmp 20) 22 (by rfl) (w.heap.size + 1) 5 i0 (.int .u8 0) 1 1 Tryz.underlying22 hi T U V rfl (by omega) u3 (2 * k) (J5a .u8 (2 * k) (Q3 X)) (by rfl) (by first | exact (D.alloc _).drew | exact (D.drew).alloc _)
          ⟨wr.heap.size, 0, none⟩ 2 2 [.int .u8 (Q3 X (2 * k)), .int .u8 (Q3 X (2 * k + 1))] (by rfl) (by rfl) (World.news_of_block (cs := #[.int .u8 (Q3 X (2 * k)), .int .u8 (Q3 X (2 * k + 1))]) (t := 5) (fr := (0, 0)) (heap_alloc_new wr _)) (by simp [Value.oneCell'])
          (by omega) (by unfold maxLen; omega) (by omega) (by simp; omega) (wr.heap.size + 1) (by simp) ?_; intro gg α w1 N J Y γ))
    have M := HO.out
    rw [List.append_cons, ← J81, ← J81] at N
    have hbel' := Q44 ((G.alloc R.size (.cells #[.int .u8 (Q3 X (2 * k)), .int .u8 (Q3 X (2 * k + 1))] 5)).drew) J (by simp; omega) (fun k hk => by have := M k hk; omega)
    have b1' := Q45 (Y9 (Y8 b1 _)) J (fun k hk => by have := M k hk; omega)
    go_wp2
    go_roundw
    case rel =>
      exact ⟨k + 1, by omega, by go_num, hbel', N, b1'⟩
    case measure => simp [intOf]; omega
end

section
set_option maxHeartbeats 1000000

theorem Z3x (T p : Nat) : (T / 2 ^ p % 2 = 0 → (T / 2 ^ (p + 1) % LL + T / 2 ^ (p + 1) % LL) % LL = T / 2 ^ p % LL) ∧
    (T / 2 ^ p % 2 = 1 → ((T / 2 ^ (p + 1) % LL + T / 2 ^ (p + 1) % LL) % LL + 1) % LL = T / 2 ^ p % LL) := by
  rw [Nat.pow_succ, ← Nat.div_div_eq_div_mul]
  generalize T / 2 ^ p = U
  constructor
  · intro h
    rw [← Nat.add_mod, show U / 2 + U / 2 = U by omega]
  intro h
  rw [← Nat.add_mod, Nat.add_mod, Nat.mod_mod, ← Nat.add_mod, show U / 2 + U / 2 + 1 = U by omega]
theorem Y85 (T i k : Nat) (hk : k < 8) : Q3 T i / 2 ^ k % 2 = ((T / 2 ^ (8 * i + k) % 2 : Nat) : Int) := by
  unfold Q3
  rw [Nat.pow_add, ← Nat.div_div_eq_div_mul]
  generalize T / 2 ^ (8 * i) = x
  have h : k = 0 ∨ k = 1 ∨ k = 2 ∨ k = 3 ∨ k = 4 ∨ k = 5 ∨ k = 6 ∨ k = 7 := by omega
  rcases h with rfl | rfl | rfl | rfl | rfl | rfl | rfl | rfl <;> simp only [Nat.reducePow, Int.reducePow] <;> omega
theorem Y2a : A16 1 = .agg #[.int .i64 1, .int .i64 0, .int .i64 0, .int .i64 0, .int .i64 0, .int .i64 0, .int .i64 0, .int .i64 0, .int .i64 0, .int .i64 0, .int .i64 0, .int .i64 0, .int .i64 0, .int .i64 0, .int .i64 0, .int .i64 0] := by
  unfold A16; rw [Q6s, show (List.range 16).map (Q5 1) = [1, 0, 0, 0, 0, 0, 0, 0, 0, 0, 0, 0, 0, 0, 0, 0] by decide +kernel]; rfl
theorem Q9m : J0 .i64 16 (Q5 0) = J0 .i64 16 (fun _ => 0) := K8 _ _ _ _ (fun i _ => by simp [Q5])
end

section
set_option maxHeartbeats 4000000

theorem rof_c (n T : Nat) (hT : T < 2 ^ (8 * n)) (hn : n ≤ 700) (w : World) :
    Calls Tryz.prog 62 #[Q3l n (Q3 T)] w fun e w' => K6 (A16 (T % LL)) w w' e := by
  have θ : T / 2 ^ (8 * n) % LL = 0 := by rw [Nat.div_eq_of_lt hT]; rfl
  have Y := fun i (hi : i < n) (W : World) => Q28 (P := Tryz.prog) 9 Tryz.underlying9 n (Q3 T) (fun j _ => J38 T j) i hi W
  have ρ := Q46 n (Q3 T)
  unfold Q3l
  obtain ⟨S, hS⟩ : ∃ S, S = strOfNums ((List.range n).map (Q3 T)) := ⟨_, rfl⟩
  rw [← hS] at Y ρ ⊢
  have ξ := Lib.hid θ
  have μ := Lib.hid Y
  clear hS hT θ Y
  go_enter Tryz.func62, Tryz.ntmps62
  go_wp2
  go_loopw [4, 5] (fun ii _ wr => ∃ m : Nat, m ≤ n ∧ ii = .int .i64 ((m : Int) - 1) ∧ Below w.heap.size w wr ∧
      Blk wr w.heap.size (J0 .i64 16 (fun _ => 0)) 121 ∧ Blk wr (w.heap.size + 1) (J0 .i64 16 (Q5 (T / 2 ^ (8 * m) % LL))) 121)
    (fun ii _ _ => (intOf ii + 1).toNat)
  case atStart =>
    refine ⟨n, Nat.le_refl _, rfl, ?_, Y8 (V2 _ _ rfl) _, ?_⟩
    · exact bz
    rw [ξ.out, Q9m]; exact V2 _ _ (by simp)
  case round =>
    obtain ⟨m, hm, rfl, D, b1, b2⟩ := hrel
    by_cases ζ : m = 0
    · subst ζ
      go_wp2_with (first
        | (refine wpList_load_row rfl 121 (.tmp 3) rfl (w.heap.size + 1) rfl _ _ _ _ b2 Tryz.underlying121 rfl (by kernel_rfl) ?_)
        | (refine wpList_store_row rfl 121 (.tmp 2) (.tmp 30) rfl w.heap.size _ rfl rfl 121 _ b1 (by kernel_rfl) (by kernel_rfl) (Z0 _ _ _) ?_))
      refine bodyPost_ret (results_cell_row rfl _ _ w.heap.size _ _ _ _ rfl (Y6 b1 _) Tryz.underlying121 rfl (by kernel_rfl)) rfl ⟨?_, Z6 D (by omega) _⟩
      rw [Nat.mul_zero, Nat.pow_zero, Nat.div_one]; rfl
    obtain ⟨i, rfl⟩ : ∃ i, m = i + 1 := ⟨m - 1, by omega⟩
    have e1 : ((i + 1 : Nat) : Int) - 1 = (i : Int) := by omega
    rw [e1]
    clear ζ e1
    have hi := μ.out i (by omega)
    have HI := Lib.hid hi
    clear hi
    go_wp2
    go_loopw [5] (fun kk wr => ∃ k : Nat, k ≤ 8 ∧ kk = .int .i64 ((k : Int) - 1) ∧ Below w.heap.size w wr ∧
        Blk wr w.heap.size (J0 .i64 16 (fun _ => 0)) 121 ∧ Blk wr (w.heap.size + 1) (J0 .i64 16 (Q5 (T / 2 ^ (8 * i + k) % LL))) 121)
      (fun kk _ => (intOf kk + 1).toNat)
    case atStart => exact ⟨8, Nat.le_refl _, rfl, D, b1, b2⟩
    case round =>
      clear D b1 b2
      obtain ⟨k, hk, rfl, D, b1, b2⟩ := hrel
      by_cases ε : k = 0
      · subst ε
        go_wp2
        go_roundw
        case rel => exact ⟨i, by omega, rfl, D, b1, b2⟩
        case measure => (first | (simp [intOf]; done) | (simp [intOf]; omega))
      obtain ⟨j, rfl⟩ : ∃ j, k = j + 1 := ⟨k - 1, by omega⟩
      have e1 : ((j + 1 : Nat) : Int) - 1 = (j : Int) := by omega
      rw [e1]
      clear ε e1
      have hi := HI.out
      have σ : (j : Int) < 8 := by omega
      have τ : (0 : Int) ≤ (i : Int) := by omega
      have β.size := D.size
      have δ := Y85 T i j (by omega)
      obtain ⟨J, M⟩ := Z3x T (8 * i + j)
      have hU := Nat.mod_lt (T / 2 ^ (8 * i + (j + 1))) (show 0 < LL by decide)
      have HU := Lib.hid hU
      clear hU
      obtain ⟨N, hN⟩ : ∃ N, N = T / 2 ^ (8 * i + (j + 1)) % LL := ⟨_, rfl⟩
      rw [show 8 * i + j + 1 = 8 * i + (j + 1) by omega, ← hN] at J M
      rw [← hN] at b2 HU
      clear hN
      have κ : (Q3 T i / 2 ^ j).tmod 2 = ((T / 2 ^ (8 * i + j) % 2 : Nat) : Int) := by
        rw [← δ]
        exact Int.tmod_eq_emod_of_nonneg (Int.ediv_nonneg (J38 T i).1 (Int.le_of_lt (Int.pow_pos (by decide))))
      clear δ
      have U := Z7s N N HU.out HU.out
      have V := Nat.mod_lt (N + N) (show 0 < LL by decide)
      obtain ⟨N2, Z⟩ : ∃ N2, N2 = (N + N) % LL := ⟨_, rfl⟩
      obtain ⟨R, hR⟩ : ∃ R, R = T / 2 ^ (8 * i + j) % LL := ⟨_, rfl⟩
      rw [← Z] at U J M V
      rw [← hR] at J M
      have HR := Lib.hid hR
      clear hR Z
      unfold A16 at U
      have α := Lib.hid U
      clear U
      rcases Nat.mod_two_eq_zero_or_one (T / 2 ^ (8 * i + j)) with h2 | h2
      · rw [h2] at κ
        rw [J h2] at α
        clear J M h2 V
        go_wp2_with (first
          | (refine wpList_load_row rfl 121 (.tmp 3) rfl (w.heap.size + 1) rfl _ _ _ _ b2 Tryz.underlying121 rfl (by kernel_rfl) ?_)
          | (go_at_call 109; (with_reducible refine (α.out _).mono ?_); rintro e w1 ⟨rfl, G⟩; have b1 := J1 b1 G; have b2 := J1 b2 G; have D := Q9 D G β.size; have η := D.size)
          | (refine wpList_store_row rfl 121 (.tmp 3) (.tmp 19) rfl (w.heap.size + 1) _ rfl rfl 121 _ b2 (by kernel_rfl) (by kernel_rfl) (Z0 _ _ _) ?_; have b1 := J3 b1 (show w.heap.size ≠ w.heap.size + 1 by omega) (J0 .i64 16 (Q5 R)); have b2 := Y6 b2 (J0 .i64 16 (Q5 R)); have D := Z6 D (show w.heap.size ≤ w.heap.size + 1 by omega) (J0 .i64 16 (Q5 R))))
        go_roundw
        case rel => exact ⟨j, by omega, rfl, by assumption, by assumption, by rw [← HR.out]; assumption⟩
        case measure => (first | (simp [intOf]; done) | (simp [intOf]; omega))
      rw [h2] at κ
      have X := Z7s N2 1 V (by decide)
      rw [M h2, Y2a] at X
      unfold A16 at X
      have ν := Lib.hid X
      clear J M h2 X V
      go_wp2_with (first
        | (refine wpList_load_row rfl 121 (.tmp 3) rfl (w.heap.size + 1) rfl _ _ _ _ b2 Tryz.underlying121 rfl (by kernel_rfl) ?_)
        | (go_at_call 109; (with_reducible refine (α.out _).mono ?_); rintro e w1 ⟨rfl, G⟩; have b1 := J1 b1 G; have b2 := J1 b2 G; have D := Q9 D G β.size; have η := D.size)
        | (refine wpList_store_row rfl 121 (.tmp 3) (.tmp 19) rfl (w.heap.size + 1) _ rfl rfl 121 _ b2 (by kernel_rfl) (by kernel_rfl) (Z0 _ _ _) ?_; have b1 := J3 b1 (show w.heap.size ≠ w.heap.size + 1 by omega) (J0 .i64 16 (Q5 N2)); have b2 := Y6 b2 (J0 .i64 16 (Q5 N2)); have D := Z6 D (show w.heap.size ≤ w.heap.size + 1 by omega) (J0 .i64 16 (Q5 N2)))
        | (refine Q3t rfl 121 _ rfl #[.int .i64 1, .int .i64 0, .int .i64 0, .int .i64 0, .int .i64 0, .int .i64 0, .int .i64 0, .int .i64 0, .int .i64 0, .int .i64 0, .int .i64 0, .int .i64 0, .int .i64 0, .int .i64 0, .int .i64 0, .int .i64 0] (by kernel_rfl) ?_)
        | (go_at_call 109; (with_reducible refine (ν.out _).mono ?_); rintro e w2 ⟨rfl, γ⟩; have b1 := J1 b1 γ; have b2 := J1 b2 γ; have D := Q9 D γ (by simp; exact η))
        | (refine wpList_store_row rfl 121 (.tmp 3) (.tmp 29) rfl (w.heap.size + 1) _ rfl rfl 121 _ b2 (by kernel_rfl) (by kernel_rfl) (Z0 _ _ _) ?_; have b1 := J3 b1 (show w.heap.size ≠ w.heap.size + 1 by omega) (J0 .i64 16 (Q5 R)); have b2 := Y6 b2 (J0 .i64 16 (Q5 R)); have D := Z6 D (show w.heap.size ≤ w.heap.size + 1 by omega) (J0 .i64 16 (Q5 R))))
      go_roundw
      case rel => exact ⟨j, by omega, rfl, by assumption, by assumption, by rw [← HR.out]; assumption⟩
      case measure => (first | (simp [intOf]; done) | (simp [intOf]; omega))
end

section
set_option maxHeartbeats 4000000

end

section
set_option maxHeartbeats 4000000

end

section
set_option maxHeartbeats 2000000

end
end Go.Proofs.YtejkmhgkkibafaaGreatDoor.S8.Sc

namespace Go.Proofs.YtejkmhgkkibafaaGreatDoor.S8
set_option maxHeartbeats 1500000
attribute [local irreducible] wpList J01 wpX
theorem Q9d (w : World) :
  Calls Tryz.prog 116 #[] w fun e w' => K6 (A16 DD) w w' e := by
 have hS := SH.nil [] w
 go_enter Tryz.func116, Tryz.ntmps116
 go_upto_region 0 with fail
 refine RL hS ?_
 clear hS
 refine MN (z := J0 .i64 16 (Q5 0)) (t := 124) ?_
 intro D
 refine MZ fun W hS => ?_
 go_upto_region 1 with fail
 refine RL hS ?_
 clear hS
 refine MW ?_ (v := .agg (J0 .i64 16 (Q5 DD))) (hv := by intro W; kernel_rfl)
 refine MR 0 ?_ 
 refine MZ fun W hS => ?_
 go_wp2
 exact bodyPost_ret (Y3 rfl rfl (hS.blk (i := 0) rfl) (by kernel_rfl) (by rw [J2]; kernel_rfl)) rfl ⟨rfl, hS.ext⟩
theorem Y1h (w : World) :
  Calls Tryz.prog 68 #[] w fun e w' => K6 (.agg (p3 BX BY 1)) w w' e := by
 have hS := SH.nil [] w
 go_enter Tryz.func68, Tryz.ntmps68
 go_upto_region 0 with fail
 refine RL hS ?_
 clear hS
 refine MN (z := p3 0 0 0) (t := 126) ?_
 intro D
 refine MZ fun W hS => ?_
 go_upto_region 1 with fail
 refine RL hS ?_
 clear hS
 refine MW ?_ (v := .agg (J0 .i64 16 (Q5 BX))) (hv := by intro W; kernel_rfl)
 refine MW ?_ (v := .agg (J0 .i64 16 (Q5 BY))) (hv := by intro W; kernel_rfl)
 refine MW ?_ (v := .agg (J0 .i64 16 (Q5 1))) (hv := by intro W; kernel_rfl)
 refine MW ?_ (v := .agg (p3 BX BY 1)) (hv := by intro W; kernel_rfl)
 refine MR 0 ?_ (hz := by rw [Q6]; kernel_rfl) (hs := by first | rw [Q6, Q6] | rw [Q6] | kernel_rfl) (h1 := J24)
 refine MZ fun W hS => ?_
 go_wp2
 exact bodyPost_ret (Y3 rfl rfl (hS.blk (i := 0) rfl) (by kernel_rfl) (by rw [Q6]; kernel_rfl)) rfl ⟨rfl, hS.ext⟩
theorem Y1i (w : World) :
  Calls Tryz.prog 119 #[] w fun e w' => K6 (.agg (p3 0 1 1)) w w' e := by
 have hS := SH.nil [] w
 go_enter Tryz.func119, Tryz.ntmps119
 go_upto_region 0 with fail
 refine RL hS ?_
 clear hS
 refine MN (z := p3 0 0 0) (t := 126) ?_
 intro D
 refine MZ fun W hS => ?_
 go_upto_region 1 with fail
 refine RL hS ?_
 clear hS
 refine MW ?_ (v := .agg (J0 .i64 16 (Q5 1))) (hv := by intro W; kernel_rfl)
 refine MW ?_ (v := .agg (J0 .i64 16 (Q5 1))) (hv := by intro W; kernel_rfl)
 refine MW ?_ (v := .agg (p3 0 1 1)) (hv := by intro W; kernel_rfl)
 refine MR 0 ?_ (hz := by rw [Q6]; kernel_rfl) (hs := by first | rw [Q6, Q6] | rw [Q6] | kernel_rfl) (h1 := J24)
 refine MZ fun W hS => ?_
 go_wp2
 exact bodyPost_ret (Y3 rfl rfl (hS.blk (i := 0) rfl) (by kernel_rfl) (by rw [Q6]; kernel_rfl)) rfl ⟨rfl, hS.ext⟩
theorem Y1j : RD BX BY 1 BP := Z73 (by decide) (by decide) J9l
theorem Y1k : RD 0 1 1 p0 := rn_p0.rr
theorem Y1l {X1 Y1 Z1 : Nat} {p1 : Pr} (h1 : RD X1 Y1 Z1 p1) :
  ∃ X Y Z, RD X Y Z (J5c p1) ∧ ∀ w, Calls Tryz.prog 69 #[.agg (p3 X1 Y1 Z1)] w fun e w' => K6 (.agg (p3 X Y Z)) w w' e := by
 have G := Q2r X1 (Nat.le_of_lt h1.x)
 obtain ⟨N1, D⟩ := V0 ((PP - X1) % PP)
 rw [← D] at G
 have M := bpp D
 have S := Z5 M
 have J := Lib.hid D
 clear D
 refine ⟨N1, Y1, Z1, Y7i h1 J.out, fun w => ?_⟩
 have hS := SH.nil [] w
 go_enter Tryz.func69, Tryz.ntmps69
 go_upto_region 0 with fail
 refine RL hS ?_
 clear hS
 refine MN (z := p3 X1 Y1 Z1) (t := 126) ?_
 intro R
 refine MN (z := p3 0 0 0) (t := 126) ?_
 intro N
 refine MZ fun W hS => ?_
 go_upto_region 1 with fail
 refine RX 8 hS ?_
 clear hS
 refine MV ?_
 refine Ml 1 Z3i ?_
 refine MC (v := .agg (J0 .i64 16 (Q5 N1))) (fun W hS => G W) ?_
 refine MV ?_
 refine Ml 1 Z3j ?_
 refine MV ?_
 refine Ml 1 Y1g ?_
 refine MW ?_ (v := .agg (p3 N1 Y1 Z1)) (hv := by intro W; kernel_rfl)
 refine MZt ?_
 refine MR 0 ?_ (hz := by rw [Q6]; kernel_rfl) (hs := by first | rw [Q6, Q6] | rw [Q6] | kernel_rfl) (h1 := J24)
 refine MZn fun W hS => ?_
 go_wp2
 exact bodyPost_ret (Y3 rfl rfl (hS.blk (i := 0) rfl) (by kernel_rfl) (by rw [Q6]; kernel_rfl)) rfl ⟨rfl, hS.ext⟩
theorem Q5w {X1 Y1 Z1 : Nat} {p1 : Pr} {X2 Y2 Z2 : Nat} {p2 : Pr} (h1 : RD X1 Y1 Z1 p1) (h2 : RD X2 Y2 Z2 p2) :
  ∃ X Y Z, RD X Y Z (J12 p1 p2) ∧ ∀ w, Calls Tryz.prog 66 #[.agg (p3 X1 Y1 Z1), .agg (p3 X2 Y2 Z2)] w fun e w' => K6 (.agg (p3 X Y Z)) w w' e := by
 have D0 := K5 Z1 Z2 (Z5 h1.z) (Z5 h2.z)
 obtain ⟨N1, ξ⟩ := V0 (Z1 * Z2 % PP)
 rw [← ξ] at D0
 have S1 := bpp ξ
 have β := Z5 S1
 have S3 := Lib.hid ξ
 clear ξ
 have D3 := K5 N1 N1 β β
 obtain ⟨N2, γ⟩ := V0 (N1 * N1 % PP)
 rw [← γ] at D3
 have S6 := bpp γ
 have G9 := Z5 S6
 have T0 := Lib.hid γ
 clear γ
 have G4 := K5 X1 X2 (Z5 h1.x) (Z5 h2.x)
 obtain ⟨N3, δ⟩ := V0 (X1 * X2 % PP)
 rw [← δ] at G4
 have T5 := bpp δ
 have Θ := Z5 T5
 have R9 := Lib.hid δ
 clear δ
 have G0 := K5 Y1 Y2 (Z5 h1.y) (Z5 h2.y)
 obtain ⟨N4, μ⟩ := V0 (Y1 * Y2 % PP)
 rw [← μ] at G0
 have T3 := bpp μ
 have G5 := Z5 T3
 have S8 := Lib.hid μ
 clear μ
 have G2 := K5 N3 N4 Θ G5
 obtain ⟨N5, χ⟩ := V0 (N3 * N4 % PP)
 rw [← χ] at G2
 have S9 := bpp χ
 have S2 := Z5 S9
 have R8 := Lib.hid χ
 clear χ
 have Ξ := K5 DD N5 Q7k S2
 obtain ⟨N6, ε⟩ := V0 (DD * N5 % PP)
 rw [← ε] at Ξ
 have J2 := bpp ε
 have R7 := Z5 J2
 have T4 := Lib.hid ε
 clear ε
 have D6 := Q5o N2 N6 G9 (Nat.le_of_lt J2)
 obtain ⟨N7, σ⟩ := V0 ((N2 + (PP - N6) % PP) % PP)
 rw [← σ] at D6
 have S0 := bpp σ
 have G8 := Z5 S0
 have T1 := Lib.hid σ
 clear σ
 have Ψ := J7j N2 N6 G9 R7
 obtain ⟨N8, τ⟩ := V0 ((N2 + N6) % PP)
 rw [← τ] at Ψ
 have S4 := bpp τ
 have J1 := Z5 S4
 have T2 := Lib.hid τ
 clear τ
 have D9 := J7j X1 Y1 (Z5 h1.x) (Z5 h1.y)
 obtain ⟨N9, θ⟩ := V0 ((X1 + Y1) % PP)
 rw [← θ] at D9
 have R6 := bpp θ
 have S5 := Z5 R6
 have S7 := Lib.hid θ
 clear θ
 have κ := J7j X2 Y2 (Z5 h2.x) (Z5 h2.y)
 obtain ⟨G1, D⟩ := V0 ((X2 + Y2) % PP)
 rw [← D] at κ
 have M3 := bpp D
 have M4 := Z5 M3
 have J4 := Lib.hid D
 clear D
 have ψ := K5 N9 G1 S5 M4
 obtain ⟨D7, J⟩ := V0 (N9 * G1 % PP)
 rw [← J] at ψ
 have M9 := bpp J
 have M8 := Z5 M9
 have M2 := Lib.hid J
 clear J
 have ν := K5 N1 N7 β G8
 obtain ⟨Δ, U⟩ := V0 (N1 * N7 % PP)
 rw [← U] at ν
 have N0 := bpp U
 have M1 := Z5 N0
 have R1 := Lib.hid U
 clear U
 have ζ := J7j N3 N4 Θ G5
 obtain ⟨G6, M⟩ := V0 ((N3 + N4) % PP)
 rw [← M] at ζ
 have Ω := bpp M
 have T9 := Z5 Ω
 have D5 := Lib.hid M
 clear M
 have Γ := Q5o D7 G6 M8 (Nat.le_of_lt Ω)
 obtain ⟨D8, G⟩ := V0 ((D7 + (PP - G6) % PP) % PP)
 rw [← G] at Γ
 have M6 := bpp G
 have J8 := Z5 M6
 have R5 := Lib.hid G
 clear G
 have φ := K5 Δ D8 M1 J8
 obtain ⟨G7, S⟩ := V0 (Δ * D8 % PP)
 rw [← S] at φ
 have J3 := bpp S
 have T7 := Z5 J3
 have R0 := Lib.hid S
 clear S
 have ρ := K5 N1 N8 β J1
 obtain ⟨D1, R⟩ := V0 (N1 * N8 % PP)
 rw [← R] at ρ
 have R2 := bpp R
 have R3 := Z5 R2
 have M7 := Lib.hid R
 clear R
 have η := J7j N3 N4 Θ G5
 obtain ⟨G3, N⟩ := V0 ((N3 + N4) % PP)
 rw [← N] at η
 have J9 := bpp N
 have R4 := Z5 J9
 have J7 := Lib.hid N
 clear N
 have α := K5 D1 G3 R3 R4
 obtain ⟨D4, T⟩ := V0 (D1 * G3 % PP)
 rw [← T] at α
 have J6 := bpp T
 have T8 := Z5 J6
 have M0 := Lib.hid T
 clear T
 have ω := K5 N7 N8 G8 J1
 obtain ⟨D2, V⟩ := V0 (N7 * N8 % PP)
 rw [← V] at ω
 have M5 := bpp V
 have T6 := Z5 M5
 have J5 := Lib.hid V
 clear V
 refine ⟨G7, D4, D2, Y7j h1 h2 S3.out T0.out R9.out S8.out R8.out T4.out T1.out T2.out S7.out J4.out M2.out R1.out D5.out R5.out R0.out M7.out (M0.out.trans (by rw [J7.out, ← D5.out])) J5.out, fun w => ?_⟩
 have hS := SH.nil [] w
 go_enter Tryz.func66, Tryz.ntmps66
 go_upto_region 0 with fail
 refine RL hS ?_
 clear hS
 refine MN (z := p3 X1 Y1 Z1) (t := 126) ?_
 intro V7
 refine MN (z := p3 X2 Y2 Z2) (t := 126) ?_
 intro V2
 refine MN (z := p3 0 0 0) (t := 126) ?_
 intro V6
 refine MZ fun W hS => ?_
 go_upto_region 1 with fail
 refine RL hS ?_
 clear hS
 refine MV ?_
 refine Ml 2 Y1g ?_
 refine MV ?_
 refine Ml 1 Y1g ?_
 refine MC (v := .agg (J0 .i64 16 (Q5 N1))) (fun W hS => D0 W) ?_
 refine MN (z := J0 .i64 16 (Q5 0)) (t := 124) ?_
 intro V3
 refine MR 0 ?_ 
 refine MZ fun W hS => ?_
 go_upto_region 2 with fail
 refine RL hS ?_
 clear hS
 refine ML 0 ?_
 refine ML 0 ?_
 refine MC (v := .agg (J0 .i64 16 (Q5 N2))) (fun W hS => D3 W) ?_
 refine MN (z := J0 .i64 16 (Q5 0)) (t := 124) ?_
 intro V5
 refine MR 0 ?_ 
 refine MZ fun W hS => ?_
 go_upto_region 3 with fail
 refine RXn 10 [⟨10, 7, J0 .i64 16 (Q5 0), 124⟩, ⟨11, 8, J0 .i64 16 (Q5 0), 124⟩] hS ?_ (by simp only [List.forall_mem_cons]; exact ⟨⟨_, rfl, rfl, rfl, fun _ _ => by kernel_rfl⟩, ⟨_, rfl, rfl, rfl, fun _ _ => by kernel_rfl⟩, fun _ h => by cases h⟩)
 clear hS
 refine MV ?_
 refine Ml 4 Z3i ?_
 refine MV ?_
 refine Ml 3 Z3i ?_
 refine MC (v := .agg (J0 .i64 16 (Q5 N3))) (fun W hS => G4 W) ?_
 refine MV ?_
 refine Ml 4 Z3j ?_
 refine MV ?_
 refine Ml 3 Z3j ?_
 refine MC (v := .agg (J0 .i64 16 (Q5 N4))) (fun W hS => G0 W) ?_
 refine MZB fun X3 => ?_
 refine MR 0 ?_ 
 refine MR 1 ?_ 
 refine MZn fun W hS => ?_
 go_upto_region 4 with fail
 refine RXn 5 [⟨5, 9, J0 .i64 16 (Q5 0), 124⟩] hS ?_ (by simp only [List.forall_mem_cons]; exact ⟨⟨_, rfl, rfl, rfl, fun _ _ => by kernel_rfl⟩, fun _ h => by cases h⟩)
 clear hS
 refine MC (v := .agg (J0 .i64 16 (Q5 DD))) (fun W hS => Q9d W) ?_
 refine ML 0 ?_
 refine ML 1 ?_
 refine MC (v := .agg (J0 .i64 16 (Q5 N5))) (fun W hS => G2 W) ?_
 refine MC (v := .agg (J0 .i64 16 (Q5 N6))) (fun W hS => Ξ W) ?_
 refine MZB fun V8 => ?_
 refine MR 0 ?_ 
 refine MZn fun W hS => ?_
 go_upto_region 5 with fail
 refine RXn 6 [⟨6, 10, J0 .i64 16 (Q5 0), 124⟩, ⟨7, 11, J0 .i64 16 (Q5 0), 124⟩] hS ?_ (by simp only [List.forall_mem_cons]; exact ⟨⟨_, rfl, rfl, rfl, fun _ _ => by kernel_rfl⟩, ⟨_, rfl, rfl, rfl, fun _ _ => by kernel_rfl⟩, fun _ h => by cases h⟩)
 clear hS
 refine ML 3 ?_
 refine ML 0 ?_
 refine MC (v := .agg (J0 .i64 16 (Q5 N7))) (fun W hS => D6 W) ?_
 refine ML 3 ?_
 refine ML 0 ?_
 refine MC (v := .agg (J0 .i64 16 (Q5 N8))) (fun W hS => Ψ W) ?_
 refine MZB fun X0 => ?_
 refine MR 0 ?_ 
 refine MR 1 ?_ 
 refine MZn fun W hS => ?_
 go_upto_region 6 with fail
 refine RXn 11 [⟨11, 12, J0 .i64 16 (Q5 0), 124⟩] hS ?_ (by simp only [List.forall_mem_cons]; exact ⟨⟨_, rfl, rfl, rfl, fun _ _ => by kernel_rfl⟩, fun _ h => by cases h⟩)
 clear hS
 refine MV ?_
 refine Ml 9 Z3i ?_
 refine MV ?_
 refine Ml 9 Z3j ?_
 refine MC (v := .agg (J0 .i64 16 (Q5 N9))) (fun W hS => D9 W) ?_
 refine MV ?_
 refine Ml 8 Z3i ?_
 refine MV ?_
 refine Ml 8 Z3j ?_
 refine MC (v := .agg (J0 .i64 16 (Q5 G1))) (fun W hS => κ W) ?_
 refine MC (v := .agg (J0 .i64 16 (Q5 D7))) (fun W hS => ψ W) ?_
 refine MZB fun V9 => ?_
 refine MR 0 ?_ 
 refine MZn fun W hS => ?_
 go_upto_region 7 with fail
 refine RXn 9 [⟨9, 13, J0 .i64 16 (Q5 0), 124⟩] hS ?_ (by simp only [List.forall_mem_cons]; exact ⟨⟨_, rfl, rfl, rfl, fun _ _ => by kernel_rfl⟩, fun _ h => by cases h⟩)
 clear hS
 refine ML 7 ?_
 refine ML 1 ?_
 refine MC (v := .agg (J0 .i64 16 (Q5 Δ))) (fun W hS => ν W) ?_
 refine ML 0 ?_
 refine ML 4 ?_
 refine ML 5 ?_
 refine MC (v := .agg (J0 .i64 16 (Q5 G6))) (fun W hS => ζ W) ?_
 refine MC (v := .agg (J0 .i64 16 (Q5 D8))) (fun W hS => Γ W) ?_
 refine MC (v := .agg (J0 .i64 16 (Q5 G7))) (fun W hS => φ W) ?_
 refine MZB fun V1 => ?_
 refine MR 0 ?_ 
 refine MZn fun W hS => ?_
 go_upto_region 8 with fail
 refine RXn 7 [⟨7, 14, J0 .i64 16 (Q5 0), 124⟩] hS ?_ (by simp only [List.forall_mem_cons]; exact ⟨⟨_, rfl, rfl, rfl, fun _ _ => by kernel_rfl⟩, fun _ h => by cases h⟩)
 clear hS
 refine ML 8 ?_
 refine ML 3 ?_
 refine MC (v := .agg (J0 .i64 16 (Q5 D1))) (fun W hS => ρ W) ?_
 refine ML 5 ?_
 refine ML 6 ?_
 refine MC (v := .agg (J0 .i64 16 (Q5 G3))) (fun W hS => η W) ?_
 refine MC (v := .agg (J0 .i64 16 (Q5 D4))) (fun W hS => α W) ?_
 refine MZB fun V4 => ?_
 refine MR 0 ?_ 
 refine MZn fun W hS => ?_
 go_upto_region 9 with fail
 refine RX 6 hS ?_
 clear hS
 refine ML 1 ?_
 refine ML 0 ?_
 refine ML 3 ?_
 refine ML 4 ?_
 refine MC (v := .agg (J0 .i64 16 (Q5 D2))) (fun W hS => ω W) ?_
 refine MW ?_ (v := .agg (p3 G7 D4 D2)) (hv := by intro W; kernel_rfl)
 refine MZt ?_
 refine MR 10 ?_ (hz := by rw [Q6]; kernel_rfl) (hs := by first | rw [Q6, Q6] | rw [Q6] | kernel_rfl) (h1 := J24)
 refine MZn fun W hS => ?_
 go_wp2
 exact bodyPost_ret (Y3 rfl rfl (hS.blk (i := 10) rfl) (by kernel_rfl) (by rw [Q6]; kernel_rfl)) rfl ⟨rfl, hS.ext⟩


end Go.Proofs.YtejkmhgkkibafaaGreatDoor.S8
