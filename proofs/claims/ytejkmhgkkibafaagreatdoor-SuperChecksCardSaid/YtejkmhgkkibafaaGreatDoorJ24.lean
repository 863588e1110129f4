/- Contracts and plain laws that superChecks_holds rests on. Conditions: the variables' cells hold the numbers of the program's text. -/
import Derived.Test.YtejkmhgkkibafaaGreatDoorJ6
import Derived.Test.YtejkmhgkkibafaaGreatDoorJ3
import Derived.Test.YtejkmhgkkibafaaGreatDoorJ8
import Derived.Test.YtejkmhgkkibafaaGreatDoorJ17
import Derived.Test.YtejkmhgkkibafaaGreatDoorGa
import Derived.Deep.AppendLies
import Derived.Deep.RegionHeld3
import Derived.Test.YtejkmhgkkibafaaGreatDoorJ18
import Derived.Test.YtejkmhgkkibafaaGreatDoorGc
import Derived.Test.YtejkmhgkkibafaaGreatDoorJ19
open Go.RowKit
set_option maxRecDepth 100000
set_option linter.unusedSimpArgs false
set_option linter.unusedVariables false
namespace Go.Proofs.YtejkmhgkkibafaaGreatDoor.S8.Sc
section
set_option maxHeartbeats 4000000

theorem Y7h : (List.range 16).map (Q6 LL) = [54253, 23797, 25370, 22546, 40150, 41719, 63966, 5342, 0, 0, 0, 0, 0, 0, 0, 4096] := by decide +kernel
theorem Y7i : A16 LL = .agg #[.int .i64 54253, .int .i64 23797, .int .i64 25370, .int .i64 22546, .int .i64 40150, .int .i64 41719, .int .i64 63966, .int .i64 5342, .int .i64 0, .int .i64 0, .int .i64 0, .int .i64 0, .int .i64 0, .int .i64 0, .int .i64 0, .int .i64 4096] := by
  unfold A16; rw [Q6h, Y7h]; rfl
theorem V0x (w : World) : Calls Tryz.prog 153 #[] w fun e w' => K7 (A16 LL) w w' e := by
  rw [Y7i]
  go_enter Tryz.func153, Tryz.ntmps153
  go_wp2_with (first | (refine Q3i rfl 121 _ rfl #[.int .i64 54253, .int .i64 23797, .int .i64 25370, .int .i64 22546, .int .i64 40150, .int .i64 41719, .int .i64 63966, .int .i64 5342, .int .i64 0, .int .i64 0, .int .i64 0, .int .i64 0, .int .i64 0, .int .i64 0, .int .i64 0, .int .i64 4096] (by kernel_rfl) ?_) | (refine wpList_store_row rfl 121 (.tmp 0) (.tmp 1) rfl w.heap.size _ rfl rfl 121 _ (Y9 _ _ rfl) (by kernel_rfl) (by kernel_rfl) (by rfl) ?_))
  refine bodyPost_ret (results_cell_row rfl _ _ w.heap.size _ _ _ _ rfl (Y9 _ _ rfl) Tryz.underlying121 rfl (by kernel_rfl)) rfl ⟨rfl, ?_⟩
  exact bz

theorem Q5v (X Y : Nat) (hX : X < Q5) (hY : Y < Q5) (w : World) :
    Calls Tryz.prog 154 #[A16 X, A16 Y] w fun e w' => K7 (.bool (decide (X < Y))) w w' e := by
  unfold A16
  go_enter Tryz.func154, Tryz.ntmps154
  go_wp2
  go_loopw [5] (fun ii wr => ∃ k : Nat, k ≤ 16 ∧ ii = .int .i64 ((k : Int) - 1) ∧ Below w.heap.size w wr ∧
      Blk wr w.heap.size (J0 .i64 16 (Q6 X)) 121 ∧ Blk wr (w.heap.size + 1) (J0 .i64 16 (Q6 Y)) 121 ∧ Hid (∀ i, k ≤ i → i < 16 → Q6 X i = Q6 Y i))
    (fun ii _ => (intOf ii + 1).toNat)
  case atStart =>
    refine ⟨16, Nat.le_refl _, rfl, ?_, Y5 (Y9 _ _ rfl) _, Y9 _ _ (by simp), fun i h1 h2 => by omega⟩
    exact bz
  case round =>
    obtain ⟨k, hk, rfl, D, b2, b3, HE⟩ := hrel
    by_cases G : k = 0
    · subst G
      go_wp2
      go_ret
      refine ⟨?_, D⟩
      have : X = Y := Z09 hX hY (fun i hi => HE i (Nat.zero_le _) hi)
      rw [this, show decide (Y < Y) = false by simp]; rfl
    obtain ⟨m, rfl⟩ : ∃ m, k = m + 1 := ⟨k - 1, by omega⟩
    have e1 : ((m + 1 : Nat) : Int) - 1 = (m : Int) := by omega
    rw [e1]
    clear G e1
    have hm : (m : Int) < 16 := by omega
    have c2 := (J7 b2 m).trans (J3 _ _ _ _ (by omega))
    have c3 := (J7 b3 m).trans (J3 _ _ _ _ (by omega))
    by_cases he : Q6 X m = Q6 Y m
    · have HE' : Hid (∀ i, m ≤ i → i < 16 → Q6 X i = Q6 Y i) := fun i h1 h2 => by
        by_cases h : i = m
        · subst h; exact he
        exact HE i (by omega) h2
      have hb : (Q6 X m != Q6 Y m) = false := by simp [he]
      clear he
      go_wp2
      go_region
      go_wp2
      go_roundw
      case rel => exact ⟨m, by omega, rfl, D.drew, Y6 b2, Y6 b3, HE'⟩
      case measure => (first | (simp [intOf]; done) | (simp [intOf]; omega))
    have hb : (Q6 X m != Q6 Y m) = true := by simp [he]
    have hv : decide (X < Y) = decide (Q6 X m < Q6 Y m) := by
      rw [Bool.eq_iff_iff, decide_eq_true_iff, decide_eq_true_iff]
      constructor
      · intro h
        exact Int.lt_of_not_ge fun J => by
          have := Q0d m (by omega) hY hX (fun i h1 h2 => (HE i (by omega) h2).symm) (by omega)
          omega
      exact Q0d m (by omega) hX hY (fun i h1 h2 => HE i (by omega) h2)
    have HV := Lib.hid hv
    clear he hv
    go_wp2
    go_region
    go_wp2
    go_region
    go_wp2
    go_ret
    refine ⟨by rw [HV.out]; rfl, ?_⟩
    exact bz
end

section
set_option maxHeartbeats 4000000

theorem J45 (X Y k : Nat) (h : Y ≤ X) :
    IntKind.i64.wrap (Q6 X k - Q6 Y k) = Q6 X k - Q6 Y k ∧
    ((J13 X Y (k + 1) = 0 ∧ IntKind.i64.wrap (Q6 X k - Q6 Y k - (J13 X Y k : Int)) = Q6 (X - Y) k ∧ decide (Q6 (X - Y) k < 0) = false) ∨
     (J13 X Y (k + 1) = 1 ∧ ∃ e : Int, IntKind.i64.wrap (Q6 X k - Q6 Y k - (J13 X Y k : Int)) = e ∧ decide (e < 0) = true ∧ IntKind.i64.wrap (e + 65536) = Q6 (X - Y) k)) := by
  have r1 := X6 X k
  have r2 := X6 Y k
  have r3 := J4o X Y k
  have r4 := X6 (X - Y) k
  have r5 := J4o X Y (k + 1)
  have hs := Q1k X Y k h
  refine ⟨IntWalk.i64_in _ (by omega), ?_⟩
  rw [IntWalk.i64_in _ (show _ by omega), hs]
  rcases Nat.lt_or_ge (J13 X Y (k + 1)) 1 with h0 | h1
  · refine .inl ⟨by omega, ?_, decide_eq_false (by omega)⟩
    rw [show J13 X Y (k + 1) = 0 by omega]; omega
  refine .inr ⟨by omega, _, rfl, decide_eq_true ?_, ?_⟩
  · rw [show J13 X Y (k + 1) = 1 by omega]; omega
  rw [show J13 X Y (k + 1) = 1 by omega, IntWalk.i64_in _ (by omega)]; omega
theorem Q7l (X Y k : Nat) : bits .and .i64 (Q6 X k + Q6 Y k + (J34 X Y k : Int)) 65535 = Q6 (X + Y) k ∧ (Q6 X k + Q6 Y k + (J34 X Y k : Int)) / 65536 = (J34 X Y (k + 1) : Int) := by
  have r1 := X6 X k
  have r2 := X6 Y k
  have r3 := Q1i X Y k
  have r4 := X6 (X + Y) k
  have h := Q1j X Y k
  rw [Q3m _ (by omega) (by omega)]
  omega

theorem Z7a (X Y : Nat) (hX : X < LL) (hY : Y < LL) (w : World) :
    Calls Tryz.prog 109 #[A16 X, A16 Y] w fun e w' => K7 (A16 ((X + Y) % LL)) w w' e := by
  obtain ⟨S, hS⟩ : ∃ S, S = X + Y := ⟨_, rfl⟩
  have δ : S % LL = if S < LL then S else S - LL := by
    by_cases h : S < LL
    · rw [if_pos h, Nat.mod_eq_of_lt h]
    rw [if_neg h, Nat.mod_eq_sub_mod (by omega), Nat.mod_eq_of_lt (by omega)]
  have Z : S < Q5 := by unfold LL at hX hY; unfold Q5; omega
  rw [← hS]
  have HS := Lib.hid hS
  have α := Lib.hid δ
  have ε := Lib.hid Z
  have HX := Lib.hid hX
  have HY := Lib.hid hY
  clear hS δ Z hX hY
  unfold A16
  go_enter Tryz.func109, Tryz.ntmps109
  go_wp2
  go_loopw [5, 6] (fun oo ii wr => ∃ k : Nat, k ≤ 16 ∧ ii = .int .i64 k ∧ oo = .int .i64 (J34 X Y k) ∧ Below w.heap.size w wr ∧
      Blk wr w.heap.size (J0 .i64 16 (J4h k (Q6 S) (Q6 X))) 121 ∧ Blk wr (w.heap.size + 1) (J0 .i64 16 (Q6 Y)) 121 ∧ Blk wr (w.heap.size + 2) (J0 .i64 16 (fun _ => 0)) 121)
    (fun _ ii _ => (16 - intOf ii).toNat)
  case atStart =>
    refine ⟨0, by omega, rfl, by rw [Q8i]; rfl, ?_, ?_, Y5 (Y9 _ _ (by simp)) _, Y9 _ _ (by simp)⟩
    · exact bz
    rw [J2i]; exact Y5 (Y5 (Y9 _ _ rfl) _) _
  case round =>
    obtain ⟨k, hk, rfl, rfl, G, b1, b2, b3⟩ := hrel
    by_cases R : k = 16
    · subst R
      rw [J3c] at b1
      have Z := ε.out
      have θ.size := G.size
      have sb := Q2 b3
      by_cases U : S < LL
      · have hd : decide (S < LL) = true := by simp [U]
        have hv : S % LL = S := by rw [α.out, if_pos U]
        clear α U
        go_wp2_with (first
          | (go_at_call 153; refine (V0x _).mono ?_; rintro e w1 ⟨rfl, J⟩; unfold A16; have b1 := J2 b1 J; have b2 := J2 b2 J; have b3 := J2 b3 J)
          | (refine wpList_store_row rfl 121 (.tmp 8) (.tmp 31) rfl w1.heap.size _ rfl rfl 121 _ (Y9 _ _ rfl) (by kernel_rfl) (by kernel_rfl) (Z9 _ _ _) ?_
             refine Q3g (fun W => Below w.heap.size w W ∧ Blk W w.heap.size (J0 .i64 16 (Q6 S)) 121 ∧ Blk W (w.heap.size + 2) (J0 .i64 16 (fun _ => 0)) 121 ∧ Blk W w1.heap.size (J0 .i64 16 (Q6 LL)) 121 ∧ Hid (w.heap.size + 2 < w1.heap.size)) ⟨(Z7 ((Y4 G J G.size).alloc (by have := G.size; have := J.size; omega) _) (by have := G.size; have := J.size; omega) _), Q0 (Y5 b1 _) (by have := Q2 b1; omega) _, Q0 (Y5 b3 _) (by have := Q2 b3; omega) _, Y8 (Y9 _ _ rfl) _, Lib.hid (Q2 b3)⟩ ?_
             rintro w2 ⟨M, c1, c3, T, HW⟩)
          | (refine wpList_load_row rfl 121 (.tmp 2) rfl w.heap.size rfl _ _ _ _ c1 Tryz.underlying121 rfl (by kernel_rfl) ?_)
          | (refine wpList_load_row rfl 121 (.tmp 8) rfl w1.heap.size rfl _ _ _ _ T Tryz.underlying121 rfl (by kernel_rfl) ?_)
          | (go_at_call 154; refine (Q5v S LL Z (by decide) _).mono ?_; rintro e w3 ⟨rfl, N⟩; have c1 := J2 c1 N; have c3 := J2 c3 N; have T := J2 T N; have V := Y4 M N M.size)
          | (refine wpList_store_row rfl 121 (.tmp 4) (.tmp 35) rfl (w.heap.size + 2) _ rfl rfl 121 _ c3 (by kernel_rfl) (by kernel_rfl) (Z9 _ _ _) ?_))
        refine bodyPost_ret (results_cell_row rfl _ _ (w.heap.size + 2) _ _ _ _ rfl (Y8 c3 _) Tryz.underlying121 rfl (by kernel_rfl)) rfl ⟨by rw [hv], Z7 V (by omega) _⟩
      have hd : decide (S < LL) = false := by simp [U]
      have hv : S % LL = S - LL := by rw [α.out, if_neg U]
      have γ := Nat.le_of_not_lt U
      clear α U
      go_wp2_with (first
        | (go_at_call 153; refine (V0x _).mono ?_; rintro e w1 ⟨rfl, J⟩; unfold A16; have b1 := J2 b1 J; have b2 := J2 b2 J; have b3 := J2 b3 J)
        | (refine wpList_store_row rfl 121 (.tmp 8) (.tmp 31) rfl w1.heap.size _ rfl rfl 121 _ (Y9 _ _ rfl) (by kernel_rfl) (by kernel_rfl) (Z9 _ _ _) ?_
           refine Q3g (fun W => Below w.heap.size w W ∧ Blk W w.heap.size (J0 .i64 16 (Q6 S)) 121 ∧ Blk W (w.heap.size + 2) (J0 .i64 16 (fun _ => 0)) 121 ∧ Blk W w1.heap.size (J0 .i64 16 (Q6 LL)) 121 ∧ Hid (w.heap.size + 2 < w1.heap.size)) ⟨(Z7 ((Y4 G J G.size).alloc (by have := G.size; have := J.size; omega) _) (by have := G.size; have := J.size; omega) _), Q0 (Y5 b1 _) (by have := Q2 b1; omega) _, Q0 (Y5 b3 _) (by have := Q2 b3; omega) _, Y8 (Y9 _ _ rfl) _, Lib.hid (Q2 b3)⟩ ?_
           rintro w2 ⟨M, c1, c3, T, HW⟩)
        | (refine wpList_load_row rfl 121 (.tmp 2) rfl w.heap.size rfl _ _ _ _ c1 Tryz.underlying121 rfl (by kernel_rfl) ?_)
        | (refine wpList_load_row rfl 121 (.tmp 8) rfl w1.heap.size rfl _ _ _ _ T Tryz.underlying121 rfl (by kernel_rfl) ?_)
        | (go_at_call 154; refine (Q5v S LL Z (by decide) _).mono ?_; rintro e w3 ⟨rfl, N⟩; have c1 := J2 c1 N; have c3 := J2 c3 N; have T := J2 T N; have V := Y4 M N M.size)
        )
      have HD := Lib.hid hv
      clear hv
      obtain ⟨D, hD⟩ : ∃ D, D = S - LL := ⟨_, rfl⟩
      rw [← hD] at HD
      have ζ := Lib.hid hD
      clear hD
      have η := Lib.hid γ
      clear γ
      refine Q6g (fun W => Below w.heap.size w W ∧ Blk W w.heap.size (J0 .i64 16 (Q6 S)) 121 ∧ Blk W (w.heap.size + 2) (J0 .i64 16 (fun _ => 0)) 121 ∧ Blk W w1.heap.size (J0 .i64 16 (Q6 LL)) 121) ⟨V, c1, c3, T⟩ ?_
      rintro w4 ⟨β, c1, c3, c4⟩
      go_loopw [9, 10] (fun oo ii wr => ∃ k : Nat, k ≤ 16 ∧ ii = .int .i64 k ∧ oo = .int .i64 (J13 S LL k) ∧ Below w.heap.size w wr ∧
          Blk wr w.heap.size (J0 .i64 16 (J4h k (Q6 D) (Q6 S))) 121 ∧ Blk wr (w.heap.size + 2) (J0 .i64 16 (fun _ => 0)) 121 ∧ Blk wr w1.heap.size (J0 .i64 16 (Q6 LL)) 121)
        (fun _ ii _ => (16 - intOf ii).toNat)
      case atStart => exact ⟨0, by omega, rfl, by rw [J66]; rfl, β, by rw [J2i]; exact c1, c3, c4⟩
      case round =>
        obtain ⟨k, hk, rfl, rfl, G, b1, b2, b3⟩ := hrel
        by_cases R : k = 16
        · subst R
          rw [J3c] at b1
          go_wp2_with (first
            | (refine wpList_load_row rfl 121 (.tmp 2) rfl w.heap.size rfl _ _ _ _ b1 Tryz.underlying121 rfl (by kernel_rfl) ?_)
            | (refine wpList_store_row rfl 121 (.tmp 4) (.tmp 56) rfl (w.heap.size + 2) _ rfl rfl 121 _ b2 (by kernel_rfl) (by kernel_rfl) (Z9 _ _ _) ?_))
          refine bodyPost_ret (results_cell_row rfl _ _ (w.heap.size + 2) _ _ _ _ rfl (Y8 b2 _) Tryz.underlying121 rfl (by kernel_rfl)) rfl ⟨by rw [HD.out], Z7 G (by omega) _⟩
        have hk' : (k : Int) < 16 := by omega
        have c1 := (J7 b1 k).trans (J3 _ _ _ _ (by omega))
        rw [J4i] at c1
        have c2 := (J7 b3 k).trans (J3 _ _ _ _ (by omega))
        have f1 := V2 b1
        have hlt' := HW.out
        have hp := J45 S LL k η.out
        rw [← ζ.out] at hp
        obtain ⟨d1, ⟨hb, d2, d3⟩ | ⟨hb, e, d2, d3, d4⟩⟩ := hp
        · clear R
          go_wp2
          go_region
          go_wp2
          go_roundw
          case rel =>
            have hs := Z8 b1 k (.int .i64 (Q6 D k))
            rw [J2p] at hs
            refine ⟨k + 1, by omega, by go_num, by rw [hb]; rfl, ?_, Y6 hs, Y6 (J6 b2 (by omega) _ _), Y6 (J6 b3 (by omega) _ _)⟩
            exact bz
          case measure => simp [intOf]; omega
        clear R
        go_wp2
        go_region
        go_wp2
        go_roundw
        case rel =>
          have hs := Z8 b1 k (.int .i64 (Q6 D k))
          rw [J2p] at hs
          refine ⟨k + 1, by omega, by go_num, by rw [hb]; rfl, ?_, Y6 hs, Y6 (J6 b2 (by omega) _ _), Y6 (J6 b3 (by omega) _ _)⟩
          exact bz
        case measure => simp [intOf]; omega
    have hk' : (k : Int) < 16 := by omega
    have c1 := (J7 b1 k).trans (J3 _ _ _ _ (by omega))
    rw [J4i] at c1
    have c2 := (J7 b2 k).trans (J3 _ _ _ _ (by omega))
    have f1 := V2 b1
    have r1 := X6 X k
    have r2 := X6 Y k
    have r3 := Q1i X Y k
    have d1 : IntKind.i64.wrap (Q6 X k + Q6 Y k) = Q6 X k + Q6 Y k := IntWalk.i64_in _ (by omega)
    have d2 : IntKind.i64.wrap (Q6 X k + Q6 Y k + (J34 X Y k : Int)) = Q6 X k + Q6 Y k + (J34 X Y k : Int) := IntWalk.i64_in _ (by omega)
    have hp := Q7l X Y k
    rw [← HS.out] at hp
    have h1 := hp.1
    have h2 := hp.2
    clear hp R
    go_wp2
    go_region
    go_wp2
    go_roundw
    case rel =>
      have hs := Z8 b1 k (.int .i64 (Q6 S k))
      rw [J2p] at hs
      refine ⟨k + 1, by omega, by go_num, rfl, ?_, Y6 hs, Y6 (J6 b2 (by omega) _ _), Y6 (J6 b3 (by omega) _ _)⟩
      exact bz
    case measure => simp [intOf]; omega
end

section
set_option maxHeartbeats 1000000

end

section
set_option maxHeartbeats 1000000

theorem Q5l (X k : Nat) : IntKind.u8.wrap (Q6 X k) = Q3 X (2 * k) ∧ IntKind.u8.wrap (Q6 X k / 256) = Q3 X (2 * k + 1) := by
  unfold Q6 Q3
  rw [IntKind.wrap_u8, IntKind.wrap_u8, show 8 * (2 * k) = 16 * k by omega, show 8 * (2 * k + 1) = 16 * k + 8 by omega, Nat.pow_add, ← Nat.div_div_eq_div_mul]
  generalize X / 2 ^ (16 * k) = x
  constructor <;> omega

theorem rbytes_c (X : Nat) (w : World) : Calls Tryz.prog 63 #[A16 X] w fun e w' => K7 (Q3a 32 (Q3 X)) w w' e := by
  obtain ⟨i0, hi, T, S, V⟩ := info_parts Q6r
  unfold A16
  go_enter Tryz.func63, Tryz.ntmps63
  go_wp2
  go_loopw [3, 4] (fun v ii wr => ∃ k : Nat, k ≤ 16 ∧ ii = .int .i64 k ∧ Below w.heap.size w wr ∧ wr.ownsRow (w.heap.size + 1) 5 1 v (2 * k) (J50 .u8 (2 * k) (Q3 X)) ∧
      Blk wr w.heap.size (J0 .i64 16 (Q6 X)) 121)
    (fun _ ii _ => (16 - intOf ii).toNat)
  case atStart =>
    refine ⟨0, by omega, rfl, ?_, ?_, Y5 (Y9 _ _ rfl) _⟩
    · exact bz
    exact ⟨rfl, .inr ⟨w.heap.size + 1, 0, #[], rfl, Nat.le_refl _, Y9 _ _ (by simp), Nat.le_refl _, by decide, rfl, rfl⟩⟩
  case round =>
    obtain ⟨k, hk, rfl, J, D, b1⟩ := hrel
    by_cases U : k = 16
    · subst U
      have hc := J73 Tryz.underlying22 Tryz.underlying5 D 9 Tryz.underlying9
      go_wp2
      go_ret
      exact ⟨rfl, J⟩
    have hk' : (k : Int) < 16 := by omega
    have c1 := (J7 b1 k).trans (J3 _ _ _ _ (by omega))
    have r1 := X6 X k
    obtain ⟨β, γ⟩ := Q5l X k
    have R.size := J.size
    have HB := Lib.hid J.size
    have ag : u3.ownBlock ≠ some w.heap.size := fun h => by have := (D.lt _ h).1; omega
    have M : ∀ k, u3.ownBlock = some k → w.heap.size + 1 ≤ k := fun k hk => (D.lt k hk).1
    have HO := Lib.hid M
    clear M
    go_wp2_with fail
    go_region_held3 (fun W => W.cell? ⟨w.heap.size, k, none⟩ = some (.int .i64 (Q6 X k)))
      (first
        | go_keep
        | (rw [G.cell_far _ (by simp; omega) (Ne.symm ag)]; first | assumption | (simp [*]; done)))
      ((refine step_append_lies _ (by rfl) (.tmp 10) (.tmp 20) 22 (by rfl) (w.heap.size + 1) 5 i0 (.int .u8 0) 1 1 Tryz.underlying22 hi T S V rfl (by omega) u3 (2 * k) (J50 .u8 (2 * k) (Q3 X)) (by rfl) (by first | exact (D.alloc _).drew | exact (D.drew).alloc _)
          ⟨wr.heap.size, 0, none⟩ 2 2 [.int .u8 (Q3 X (2 * k)), .int .u8 (Q3 X (2 * k + 1))] (by rfl) (by rfl) (World.news_of_block (cs := #[.int .u8 (Q3 X (2 * k)), .int .u8 (Q3 X (2 * k + 1))]) (t := 5) (fr := (0, 0)) (heap_alloc_new wr _)) (by simp [Value.oneCell'])
          (by omega) (by unfold maxLen; omega) (by omega) (by simp; omega) (wr.heap.size + 1) (by simp) ?_; intro gg α w1 N G Y Z))
    have M := HO.out
    rw [List.append_cons, ← J7t, ← J7t] at N
    have hbel' := Q3t ((J.alloc R.size (.cells #[.int .u8 (Q3 X (2 * k)), .int .u8 (Q3 X (2 * k + 1))] 5)).drew) G (by simp; omega) (fun k hk => by have := M k hk; omega)
    have b1' := Q3u (Y6 (Y5 b1 _)) G (fun k hk => by have := M k hk; omega)
    go_wp2
    go_roundw
    case rel =>
      exact ⟨k + 1, by omega, by go_num, hbel', N, b1'⟩
    case measure => simp [intOf]; omega
end

section
set_option maxHeartbeats 1000000

theorem Z3k (T p : Nat) : (T / 2 ^ p % 2 = 0 → (T / 2 ^ (p + 1) % LL + T / 2 ^ (p + 1) % LL) % LL = T / 2 ^ p % LL) ∧
    (T / 2 ^ p % 2 = 1 → ((T / 2 ^ (p + 1) % LL + T / 2 ^ (p + 1) % LL) % LL + 1) % LL = T / 2 ^ p % LL) := by
  rw [Nat.pow_succ, ← Nat.div_div_eq_div_mul]
  generalize T / 2 ^ p = U
  constructor
  · intro h
    rw [← Nat.add_mod, show U / 2 + U / 2 = U by omega]
  intro h
  rw [← Nat.add_mod, Nat.add_mod, Nat.mod_mod, ← Nat.add_mod, show U / 2 + U / 2 + 1 = U by omega]
theorem Y7j (T i k : Nat) (hk : k < 8) : Q3 T i / 2 ^ k % 2 = ((T / 2 ^ (8 * i + k) % 2 : Nat) : Int) := by
  unfold Q3
  rw [Nat.pow_add, ← Nat.div_div_eq_div_mul]
  generalize T / 2 ^ (8 * i) = x
  have h : k = 0 ∨ k = 1 ∨ k = 2 ∨ k = 3 ∨ k = 4 ∨ k = 5 ∨ k = 6 ∨ k = 7 := by omega
  rcases h with rfl | rfl | rfl | rfl | rfl | rfl | rfl | rfl <;> simp only [Nat.reducePow, Int.reducePow] <;> omega
theorem Y1p : A16 1 = .agg #[.int .i64 1, .int .i64 0, .int .i64 0, .int .i64 0, .int .i64 0, .int .i64 0, .int .i64 0, .int .i64 0, .int .i64 0, .int .i64 0, .int .i64 0, .int .i64 0, .int .i64 0, .int .i64 0, .int .i64 0, .int .i64 0] := by
  unfold A16; rw [Q6h, show (List.range 16).map (Q6 1) = [1, 0, 0, 0, 0, 0, 0, 0, 0, 0, 0, 0, 0, 0, 0, 0] by decide +kernel]; rfl
theorem Q9b : J0 .i64 16 (Q6 0) = J0 .i64 16 (fun _ => 0) := K5 _ _ _ _ (fun i _ => by simp [Q6])
end

section
set_option maxHeartbeats 4000000

theorem rof_c (n T : Nat) (hT : T < 2 ^ (8 * n)) (hn : n ≤ 700) (w : World) :
    Calls Tryz.prog 62 #[Q3a n (Q3 T)] w fun e w' => K7 (A16 (T % LL)) w w' e := by
  have θ : T / 2 ^ (8 * n) % LL = 0 := by rw [Nat.div_eq_of_lt hT]; rfl
  have α := fun i (hi : i < n) (W : World) => Q1y (P := Tryz.prog) 9 Tryz.underlying9 n (Q3 T) (fun j _ => J2y T j) i hi W
  have μ := Q3v n (Q3 T)
  unfold Q3a
  obtain ⟨S, hS⟩ : ∃ S, S = strOfNums ((List.range n).map (Q3 T)) := ⟨_, rfl⟩
  rw [← hS] at α μ ⊢
  have ρ := Lib.hid θ
  have ν := Lib.hid α
  clear hS hT θ α
  go_enter Tryz.func62, Tryz.ntmps62
  go_wp2
  go_loopw [4, 5] (fun ii _ wr => ∃ m : Nat, m ≤ n ∧ ii = .int .i64 ((m : Int) - 1) ∧ Below w.heap.size w wr ∧
      Blk wr w.heap.size (J0 .i64 16 (fun _ => 0)) 121 ∧ Blk wr (w.heap.size + 1) (J0 .i64 16 (Q6 (T / 2 ^ (8 * m) % LL))) 121)
    (fun ii _ _ => (intOf ii + 1).toNat)
  case atStart =>
    refine ⟨n, Nat.le_refl _, rfl, ?_, Y5 (Y9 _ _ rfl) _, ?_⟩
    · exact bz
    rw [ρ.out, Q9b]; exact Y9 _ _ (by simp)
  case round =>
    obtain ⟨m, hm, rfl, D, b1, b2⟩ := hrel
    by_cases ζ : m = 0
    · subst ζ
      go_wp2_with (first
        | (refine wpList_load_row rfl 121 (.tmp 3) rfl (w.heap.size + 1) rfl _ _ _ _ b2 Tryz.underlying121 rfl (by kernel_rfl) ?_)
        | (refine wpList_store_row rfl 121 (.tmp 2) (.tmp 30) rfl w.heap.size _ rfl rfl 121 _ b1 (by kernel_rfl) (by kernel_rfl) (Z9 _ _ _) ?_))
      refine bodyPost_ret (results_cell_row rfl _ _ w.heap.size _ _ _ _ rfl (Y8 b1 _) Tryz.underlying121 rfl (by kernel_rfl)) rfl ⟨?_, Z7 D (by omega) _⟩
      rw [Nat.mul_zero, Nat.pow_zero, Nat.div_one]; rfl
    obtain ⟨i, rfl⟩ : ∃ i, m = i + 1 := ⟨m - 1, by omega⟩
    have e1 : ((i + 1 : Nat) : Int) - 1 = (i : Int) := by omega
    rw [e1]
    clear ζ e1
    have hi := ν.out i (by omega)
    have HI := Lib.hid hi
    clear hi
    go_wp2
    go_loopw [5] (fun kk wr => ∃ k : Nat, k ≤ 8 ∧ kk = .int .i64 ((k : Int) - 1) ∧ Below w.heap.size w wr ∧
        Blk wr w.heap.size (J0 .i64 16 (fun _ => 0)) 121 ∧ Blk wr (w.heap.size + 1) (J0 .i64 16 (Q6 (T / 2 ^ (8 * i + k) % LL))) 121)
      (fun kk _ => (intOf kk + 1).toNat)
    case atStart => exact ⟨8, Nat.le_refl _, rfl, D, b1, b2⟩
    case round =>
      clear D b1 b2
      obtain ⟨k, hk, rfl, D, b1, b2⟩ := hrel
      by_cases η : k = 0
      · subst η
        go_wp2
        go_roundw
        case rel => exact ⟨i, by omega, rfl, D, b1, b2⟩
        case measure => (first | (simp [intOf]; done) | (simp [intOf]; omega))
      obtain ⟨j, rfl⟩ : ∃ j, k = j + 1 := ⟨k - 1, by omega⟩
      have e1 : ((j + 1 : Nat) : Int) - 1 = (j : Int) := by omega
      rw [e1]
      clear η e1
      have hi := HI.out
      have τ : (j : Int) < 8 := by omega
      have σ : (0 : Int) ≤ (i : Int) := by omega
      have γ.size := D.size
      have δ := Y7j T i j (by omega)
      obtain ⟨M, J⟩ := Z3k T (8 * i + j)
      have hU := Nat.mod_lt (T / 2 ^ (8 * i + (j + 1))) (show 0 < LL by decide)
      have HU := Lib.hid hU
      clear hU
      obtain ⟨N, hN⟩ : ∃ N, N = T / 2 ^ (8 * i + (j + 1)) % LL := ⟨_, rfl⟩
      rw [show 8 * i + j + 1 = 8 * i + (j + 1) by omega, ← hN] at M J
      rw [← hN] at b2 HU
      clear hN
      have ε : (Q3 T i / 2 ^ j).tmod 2 = ((T / 2 ^ (8 * i + j) % 2 : Nat) : Int) := by
        rw [← δ]
        exact Int.tmod_eq_emod_of_nonneg (Int.ediv_nonneg (J2y T i).1 (Int.le_of_lt (Int.pow_pos (by decide))))
      clear δ
      have X := Z7a N N HU.out HU.out
      have V := Nat.mod_lt (N + N) (show 0 < LL by decide)
      obtain ⟨N2, Y⟩ : ∃ N2, N2 = (N + N) % LL := ⟨_, rfl⟩
      obtain ⟨R, hR⟩ : ∃ R, R = T / 2 ^ (8 * i + j) % LL := ⟨_, rfl⟩
      rw [← Y] at X M J V
      rw [← hR] at M J
      have HR := Lib.hid hR
      clear hR Y
      unfold A16 at X
      have Z := Lib.hid X
      clear X
      rcases Nat.mod_two_eq_zero_or_one (T / 2 ^ (8 * i + j)) with h2 | h2
      · rw [h2] at ε
        rw [M h2] at Z
        clear M J h2 V
        go_wp2_with (first
          | (refine wpList_load_row rfl 121 (.tmp 3) rfl (w.heap.size + 1) rfl _ _ _ _ b2 Tryz.underlying121 rfl (by kernel_rfl) ?_)
          | (go_at_call 109; (with_reducible refine (Z.out _).mono ?_); rintro e w1 ⟨rfl, G⟩; have b1 := J2 b1 G; have b2 := J2 b2 G; have D := Y4 D G γ.size; have κ := D.size)
          | (refine wpList_store_row rfl 121 (.tmp 3) (.tmp 19) rfl (w.heap.size + 1) _ rfl rfl 121 _ b2 (by kernel_rfl) (by kernel_rfl) (Z9 _ _ _) ?_; have b1 := Q0 b1 (show w.heap.size ≠ w.heap.size + 1 by omega) (J0 .i64 16 (Q6 R)); have b2 := Y8 b2 (J0 .i64 16 (Q6 R)); have D := Z7 D (show w.heap.size ≤ w.heap.size + 1 by omega) (J0 .i64 16 (Q6 R))))
        go_roundw
        case rel => exact ⟨j, by omega, rfl, by assumption, by assumption, by rw [← HR.out]; assumption⟩
        case measure => (first | (simp [intOf]; done) | (simp [intOf]; omega))
      rw [h2] at ε
      have U := Z7a N2 1 V (by decide)
      rw [J h2, Y1p] at U
      unfold A16 at U
      have ξ := Lib.hid U
      clear M J h2 U V
      go_wp2_with (first
        | (refine wpList_load_row rfl 121 (.tmp 3) rfl (w.heap.size + 1) rfl _ _ _ _ b2 Tryz.underlying121 rfl (by kernel_rfl) ?_)
        | (go_at_call 109; (with_reducible refine (Z.out _).mono ?_); rintro e w1 ⟨rfl, G⟩; have b1 := J2 b1 G; have b2 := J2 b2 G; have D := Y4 D G γ.size; have κ := D.size)
        | (refine wpList_store_row rfl 121 (.tmp 3) (.tmp 19) rfl (w.heap.size + 1) _ rfl rfl 121 _ b2 (by kernel_rfl) (by kernel_rfl) (Z9 _ _ _) ?_; have b1 := Q0 b1 (show w.heap.size ≠ w.heap.size + 1 by omega) (J0 .i64 16 (Q6 N2)); have b2 := Y8 b2 (J0 .i64 16 (Q6 N2)); have D := Z7 D (show w.heap.size ≤ w.heap.size + 1 by omega) (J0 .i64 16 (Q6 N2)))
        | (refine Q3i rfl 121 _ rfl #[.int .i64 1, .int .i64 0, .int .i64 0, .int .i64 0, .int .i64 0, .int .i64 0, .int .i64 0, .int .i64 0, .int .i64 0, .int .i64 0, .int .i64 0, .int .i64 0, .int .i64 0, .int .i64 0, .int .i64 0, .int .i64 0] (by kernel_rfl) ?_)
        | (go_at_call 109; (with_reducible refine (ξ.out _).mono ?_); rintro e w2 ⟨rfl, β⟩; have b1 := J2 b1 β; have b2 := J2 b2 β; have D := Y4 D β (by simp; exact κ))
        | (refine wpList_store_row rfl 121 (.tmp 3) (.tmp 29) rfl (w.heap.size + 1) _ rfl rfl 121 _ b2 (by kernel_rfl) (by kernel_rfl) (Z9 _ _ _) ?_; have b1 := Q0 b1 (show w.heap.size ≠ w.heap.size + 1 by omega) (J0 .i64 16 (Q6 R)); have b2 := Y8 b2 (J0 .i64 16 (Q6 R)); have D := Z7 D (show w.heap.size ≤ w.heap.size + 1 by omega) (J0 .i64 16 (Q6 R))))
      go_roundw
      case rel => exact ⟨j, by omega, rfl, by assumption, by assumption, by rw [← HR.out]; assumption⟩
      case measure => (first | (simp [intOf]; done) | (simp [intOf]; omega))
end

section
set_option maxHeartbeats 4000000

end

section
set_option maxHeartbeats 4000000

end

section
set_option maxHeartbeats 2000000

end
end Go.Proofs.YtejkmhgkkibafaaGreatDoor.S8.Sc

namespace Go.Proofs.YtejkmhgkkibafaaGreatDoor.S8
set_option maxHeartbeats 1500000
attribute [local irreducible] wpList U0 wpX
theorem Q92 (w : World) :
  Calls Tryz.prog 116 #[] w fun e w' => K7 (A16 DD) w w' e := by
 have hS := SH.nil [] w
 go_enter Tryz.func116, Tryz.ntmps116
 go_upto_region 0 with fail
 refine RL hS ?_
 clear hS
 refine MN (z := J0 .i64 16 (Q6 0)) (t := 124) ?_
 intro D
 refine MZ fun W hS => ?_
 go_upto_region 1 with fail
 refine RL hS ?_
 clear hS
 refine MW ?_ (v := .agg (J0 .i64 16 (Q6 DD))) (hv := by intro W; kernel_rfl)
 refine MR 0 ?_ 
 refine MZ fun W hS => ?_
 go_wp2
 exact bodyPost_ret (Z6 rfl rfl (hS.blk (i := 0) rfl) (by kernel_rfl) (by rw [J1]; kernel_rfl)) rfl ⟨rfl, hS.ext⟩
theorem Y0z (w : World) :
  Calls Tryz.prog 68 #[] w fun e w' => K7 (.agg (p3 BX BY 1)) w w' e := by
 have hS := SH.nil [] w
 go_enter Tryz.func68, Tryz.ntmps68
 go_upto_region 0 with fail
 refine RL hS ?_
 clear hS
 refine MN (z := p3 0 0 0) (t := 126) ?_
 intro D
 refine MZ fun W hS => ?_
 go_upto_region 1 with fail
 refine RL hS ?_
 clear hS
 refine MW ?_ (v := .agg (J0 .i64 16 (Q6 BX))) (hv := by intro W; kernel_rfl)
 refine MW ?_ (v := .agg (J0 .i64 16 (Q6 BY))) (hv := by intro W; kernel_rfl)
 refine MW ?_ (v := .agg (J0 .i64 16 (Q6 1))) (hv := by intro W; kernel_rfl)
 refine MW ?_ (v := .agg (p3 BX BY 1)) (hv := by intro W; kernel_rfl)
 refine MR 0 ?_ (hz := by rw [Q7]; kernel_rfl) (hs := by first | rw [Q7, Q7] | rw [Q7] | kernel_rfl) (h1 := J1x)
 refine MZ fun W hS => ?_
 go_wp2
 exact bodyPost_ret (Z6 rfl rfl (hS.blk (i := 0) rfl) (by kernel_rfl) (by rw [Q7]; kernel_rfl)) rfl ⟨rfl, hS.ext⟩
theorem Y10 (w : World) :
  Calls Tryz.prog 119 #[] w fun e w' => K7 (.agg (p3 0 1 1)) w w' e := by
 have hS := SH.nil [] w
 go_enter Tryz.func119, Tryz.ntmps119
 go_upto_region 0 with fail
 refine RL hS ?_
 clear hS
 refine MN (z := p3 0 0 0) (t := 126) ?_
 intro D
 refine MZ fun W hS => ?_
 go_upto_region 1 with fail
 refine RL hS ?_
 clear hS
 refine MW ?_ (v := .agg (J0 .i64 16 (Q6 1))) (hv := by intro W; kernel_rfl)
 refine MW ?_ (v := .agg (J0 .i64 16 (Q6 1))) (hv := by intro W; kernel_rfl)
 refine MW ?_ (v := .agg (p3 0 1 1)) (hv := by intro W; kernel_rfl)
 refine MR 0 ?_ (hz := by rw [Q7]; kernel_rfl) (hs := by first | rw [Q7, Q7] | rw [Q7] | kernel_rfl) (h1 := J1x)
 refine MZ fun W hS => ?_
 go_wp2
 exact bodyPost_ret (Z6 rfl rfl (hS.blk (i := 0) rfl) (by kernel_rfl) (by rw [Q7]; kernel_rfl)) rfl ⟨rfl, hS.ext⟩
theorem Y11 : RD BX BY 1 BP := Z6n (by decide) (by decide) J9a
theorem Y12 : RD 0 1 1 p0 := rn_p0.rr
theorem Y13 {X1 Y1 Z1 : Nat} {p1 : Pr} (h1 : RD X1 Y1 Z1 p1) :
  ∃ X Y Z, RD X Y Z (J52 p1) ∧ ∀ w, Calls Tryz.prog 69 #[.agg (p3 X1 Y1 Z1)] w fun e w' => K7 (.agg (p3 X Y Z)) w w' e := by
 have G := Q2i X1 (Nat.le_of_lt h1.x)
 obtain ⟨N1, D⟩ := V3 ((PP - X1) % PP)
 rw [← D] at G
 have M := bpp D
 have N := Z0 M
 have J := Lib.hid D
 clear D
 refine ⟨N1, Y1, Z1, Y6w h1 J.out, fun w => ?_⟩
 have hS := SH.nil [] w
 go_enter Tryz.func69, Tryz.ntmps69
 go_upto_region 0 with fail
 refine RL hS ?_
 clear hS
 refine MN (z := p3 X1 Y1 Z1) (t := 126) ?_
 intro S
 refine MN (z := p3 0 0 0) (t := 126) ?_
 intro R
 refine MZ fun W hS => ?_
 go_upto_region 1 with fail
 refine RX 8 hS ?_
 clear hS
 refine MV ?_
 refine Ml 1 Z35 ?_
 refine MC (v := .agg (J0 .i64 16 (Q6 N1))) (fun W hS => G W) ?_
 refine MV ?_
 refine Ml 1 Z36 ?_
 refine MV ?_
 refine Ml 1 Y0y ?_
 refine MW ?_ (v := .agg (p3 N1 Y1 Z1)) (hv := by intro W; kernel_rfl)
 refine MZt ?_
 refine MR 0 ?_ (hz := by rw [Q7]; kernel_rfl) (hs := by first | rw [Q7, Q7] | rw [Q7] | kernel_rfl) (h1 := J1x)
 refine MZn fun W hS => ?_
 go_wp2
 exact bodyPost_ret (Z6 rfl rfl (hS.blk (i := 0) rfl) (by kernel_rfl) (by rw [Q7]; kernel_rfl)) rfl ⟨rfl, hS.ext⟩
theorem Q5k {X1 Y1 Z1 : Nat} {p1 : Pr} {X2 Y2 Z2 : Nat} {p2 : Pr} (h1 : RD X1 Y1 Z1 p1) (h2 : RD X2 Y2 Z2 p2) :
  ∃ X Y Z, RD X Y Z (J0w p1 p2) ∧ ∀ w, Calls Tryz.prog 66 #[.agg (p3 X1 Y1 Z1), .agg (p3 X2 Y2 Z2)] w fun e w' => K7 (.agg (p3 X Y Z)) w w' e := by
 have D4 := J0h Z1 Z2 (Z0 h1.z) (Z0 h2.z)
 obtain ⟨N1, κ⟩ := V3 (Z1 * Z2 % PP)
 rw [← κ] at D4
 have T2 := bpp κ
 have γ := Z0 T2
 have T1 := Lib.hid κ
 clear κ
 have G0 := J0h N1 N1 γ γ
 obtain ⟨N2, μ⟩ := V3 (N1 * N1 % PP)
 rw [← μ] at G0
 have R6 := bpp μ
 have G9 := Z0 R6
 have R9 := Lib.hid μ
 clear μ
 have G6 := J0h X1 X2 (Z0 h1.x) (Z0 h2.x)
 obtain ⟨N3, β⟩ := V3 (X1 * X2 % PP)
 rw [← β] at G6
 have R7 := bpp β
 have D9 := Z0 R7
 have S4 := Lib.hid β
 clear β
 have D1 := J0h Y1 Y2 (Z0 h1.y) (Z0 h2.y)
 obtain ⟨N4, ν⟩ := V3 (Y1 * Y2 % PP)
 rw [← ν] at D1
 have S6 := bpp ν
 have Θ := Z0 S6
 have S0 := Lib.hid ν
 clear ν
 have G3 := J0h N3 N4 D9 Θ
 obtain ⟨N5, ζ⟩ := V3 (N3 * N4 % PP)
 rw [← ζ] at G3
 have R8 := bpp ζ
 have S5 := Z0 R8
 have S7 := Lib.hid ζ
 clear ζ
 have D7 := J0h DD N5 Q7a S5
 obtain ⟨N6, σ⟩ := V3 (DD * N5 % PP)
 rw [← σ] at D7
 have G8 := bpp σ
 have S3 := Z0 G8
 have T3 := Lib.hid σ
 clear σ
 have Ψ := Q5c N2 N6 G9 (Nat.le_of_lt G8)
 obtain ⟨N7, δ⟩ := V3 ((N2 + (PP - N6) % PP) % PP)
 rw [← δ] at Ψ
 have T0 := bpp δ
 have J2 := Z0 T0
 have S2 := Lib.hid δ
 clear δ
 have D2 := J7b N2 N6 G9 S3
 obtain ⟨N8, ε⟩ := V3 ((N2 + N6) % PP)
 rw [← ε] at D2
 have S1 := bpp ε
 have J1 := Z0 S1
 have S8 := Lib.hid ε
 clear ε
 have D6 := J7b X1 Y1 (Z0 h1.x) (Z0 h1.y)
 obtain ⟨N9, Γ⟩ := V3 ((X1 + Y1) % PP)
 rw [← Γ] at D6
 have T5 := bpp Γ
 have T4 := Z0 T5
 have S9 := Lib.hid Γ
 clear Γ
 have ω := J7b X2 Y2 (Z0 h2.x) (Z0 h2.y)
 obtain ⟨Δ, S⟩ := V3 ((X2 + Y2) % PP)
 rw [← S] at ω
 have M2 := bpp S
 have M0 := Z0 M2
 have J6 := Lib.hid S
 clear S
 have τ := J0h N9 Δ T4 M0
 obtain ⟨D0, D⟩ := V3 (N9 * Δ % PP)
 rw [← D] at τ
 have R5 := bpp D
 have R4 := Z0 R5
 have M3 := Lib.hid D
 clear D
 have χ := J0h N1 N7 γ J2
 obtain ⟨Ω, G⟩ := V3 (N1 * N7 % PP)
 rw [← G] at χ
 have J7 := bpp G
 have M6 := Z0 J7
 have M1 := Lib.hid G
 clear G
 have θ := J7b N3 N4 D9 Θ
 obtain ⟨G1, M⟩ := V3 ((N3 + N4) % PP)
 rw [← M] at θ
 have D8 := bpp M
 have T6 := Z0 D8
 have G5 := Lib.hid M
 clear M
 have ψ := Q5c D0 G1 R4 (Nat.le_of_lt D8)
 obtain ⟨D3, V⟩ := V3 ((D0 + (PP - G1) % PP) % PP)
 rw [← V] at ψ
 have M4 := bpp V
 have N0 := Z0 M4
 have J9 := Lib.hid V
 clear V
 have α := J0h Ω D3 M6 N0
 obtain ⟨D5, T⟩ := V3 (Ω * D3 % PP)
 rw [← T] at α
 have J4 := bpp T
 have T8 := Z0 J4
 have J5 := Lib.hid T
 clear T
 have φ := J0h N1 N8 γ J1
 obtain ⟨G4, J⟩ := V3 (N1 * N8 % PP)
 rw [← J] at φ
 have R0 := bpp J
 have M8 := Z0 R0
 have R2 := Lib.hid J
 clear J
 have η := J7b N3 N4 D9 Θ
 obtain ⟨Ξ, U⟩ := V3 ((N3 + N4) % PP)
 rw [← U] at η
 have M7 := bpp U
 have R1 := Z0 M7
 have J8 := Lib.hid U
 clear U
 have ρ := J0h G4 Ξ M8 R1
 obtain ⟨G7, R⟩ := V3 (G4 * Ξ % PP)
 rw [← R] at ρ
 have J3 := bpp R
 have T9 := Z0 J3
 have M5 := Lib.hid R
 clear R
 have ξ := J0h N7 N8 J2 J1
 obtain ⟨G2, N⟩ := V3 (N7 * N8 % PP)
 rw [← N] at ξ
 have M9 := bpp N
 have T7 := Z0 M9
 have R3 := Lib.hid N
 clear N
 refine ⟨D5, G7, G2, Y6x h1 h2 T1.out R9.out S4.out S0.out S7.out T3.out S2.out S8.out S9.out J6.out M3.out M1.out G5.out J9.out J5.out R2.out (M5.out.trans (by rw [J8.out, ← G5.out])) R3.out, fun w => ?_⟩
 have hS := SH.nil [] w
 go_enter Tryz.func66, Tryz.ntmps66
 go_upto_region 0 with fail
 refine RL hS ?_
 clear hS
 refine MN (z := p3 X1 Y1 Z1) (t := 126) ?_
 intro X5
 refine MN (z := p3 X2 Y2 Z2) (t := 126) ?_
 intro V5
 refine MN (z := p3 0 0 0) (t := 126) ?_
 intro V0
 refine MZ fun W hS => ?_
 go_upto_region 1 with fail
 refine RL hS ?_
 clear hS
 refine MV ?_
 refine Ml 2 Y0y ?_
 refine MV ?_
 refine Ml 1 Y0y ?_
 refine MC (v := .agg (J0 .i64 16 (Q6 N1))) (fun W hS => D4 W) ?_
 refine MN (z := J0 .i64 16 (Q6 0)) (t := 124) ?_
 intro V6
 refine MR 0 ?_ 
 refine MZ fun W hS => ?_
 go_upto_region 2 with fail
 refine RL hS ?_
 clear hS
 refine ML 0 ?_
 refine ML 0 ?_
 refine MC (v := .agg (J0 .i64 16 (Q6 N2))) (fun W hS => G0 W) ?_
 refine MN (z := J0 .i64 16 (Q6 0)) (t := 124) ?_
 intro V4
 refine MR 0 ?_ 
 refine MZ fun W hS => ?_
 go_upto_region 3 with fail
 refine RXn 10 [⟨10, 7, J0 .i64 16 (Q6 0), 124⟩, ⟨11, 8, J0 .i64 16 (Q6 0), 124⟩] hS ?_ (by simp only [List.forall_mem_cons]; exact ⟨⟨_, rfl, rfl, rfl, fun _ _ => by kernel_rfl⟩, ⟨_, rfl, rfl, rfl, fun _ _ => by kernel_rfl⟩, fun _ h => by cases h⟩)
 clear hS
 refine MV ?_
 refine Ml 4 Z35 ?_
 refine MV ?_
 refine Ml 3 Z35 ?_
 refine MC (v := .agg (J0 .i64 16 (Q6 N3))) (fun W hS => G6 W) ?_
 refine MV ?_
 refine Ml 4 Z36 ?_
 refine MV ?_
 refine Ml 3 Z36 ?_
 refine MC (v := .agg (J0 .i64 16 (Q6 N4))) (fun W hS => D1 W) ?_
 refine MZB fun V7 => ?_
 refine MR 0 ?_ 
 refine MR 1 ?_ 
 refine MZn fun W hS => ?_
 go_upto_region 4 with fail
 refine RXn 5 [⟨5, 9, J0 .i64 16 (Q6 0), 124⟩] hS ?_ (by simp only [List.forall_mem_cons]; exact ⟨⟨_, rfl, rfl, rfl, fun _ _ => by kernel_rfl⟩, fun _ h => by cases h⟩)
 clear hS
 refine MC (v := .agg (J0 .i64 16 (Q6 DD))) (fun W hS => Q92 W) ?_
 refine ML 0 ?_
 refine ML 1 ?_
 refine MC (v := .agg (J0 .i64 16 (Q6 N5))) (fun W hS => G3 W) ?_
 refine MC (v := .agg (J0 .i64 16 (Q6 N6))) (fun W hS => D7 W) ?_
 refine MZB fun X0 => ?_
 refine MR 0 ?_ 
 refine MZn fun W hS => ?_
 go_upto_region 5 with fail
 refine RXn 6 [⟨6, 10, J0 .i64 16 (Q6 0), 124⟩, ⟨7, 11, J0 .i64 16 (Q6 0), 124⟩] hS ?_ (by simp only [List.forall_mem_cons]; exact ⟨⟨_, rfl, rfl, rfl, fun _ _ => by kernel_rfl⟩, ⟨_, rfl, rfl, rfl, fun _ _ => by kernel_rfl⟩, fun _ h => by cases h⟩)
 clear hS
 refine ML 3 ?_
 refine ML 0 ?_
 refine MC (v := .agg (J0 .i64 16 (Q6 N7))) (fun W hS => Ψ W) ?_
 refine ML 3 ?_
 refine ML 0 ?_
 refine MC (v := .agg (J0 .i64 16 (Q6 N8))) (fun W hS => D2 W) ?_
 refine MZB fun V9 => ?_
 refine MR 0 ?_ 
 refine MR 1 ?_ 
 refine MZn fun W hS => ?_
 go_upto_region 6 with fail
 refine RXn 11 [⟨11, 12, J0 .i64 16 (Q6 0), 124⟩] hS ?_ (by simp only [List.forall_mem_cons]; exact ⟨⟨_, rfl, rfl, rfl, fun _ _ => by kernel_rfl⟩, fun _ h => by cases h⟩)
 clear hS
 refine MV ?_
 refine Ml 9 Z35 ?_
 refine MV ?_
 refine Ml 9 Z36 ?_
 refine MC (v := .agg (J0 .i64 16 (Q6 N9))) (fun W hS => D6 W) ?_
 refine MV ?_
 refine Ml 8 Z35 ?_
 refine MV ?_
 refine Ml 8 Z36 ?_
 refine MC (v := .agg (J0 .i64 16 (Q6 Δ))) (fun W hS => ω W) ?_
 refine MC (v := .agg (J0 .i64 16 (Q6 D0))) (fun W hS => τ W) ?_
 refine MZB fun V8 => ?_
 refine MR 0 ?_ 
 refine MZn fun W hS => ?_
 go_upto_region 7 with fail
 refine RXn 9 [⟨9, 13, J0 .i64 16 (Q6 0), 124⟩] hS ?_ (by simp only [List.forall_mem_cons]; exact ⟨⟨_, rfl, rfl, rfl, fun _ _ => by kernel_rfl⟩, fun _ h => by cases h⟩)
 clear hS
 refine ML 7 ?_
 refine ML 1 ?_
 refine MC (v := .agg (J0 .i64 16 (Q6 Ω))) (fun W hS => χ W) ?_
 refine ML 0 ?_
 refine ML 4 ?_
 refine ML 5 ?_
 refine MC (v := .agg (J0 .i64 16 (Q6 G1))) (fun W hS => θ W) ?_
 refine MC (v := .agg (J0 .i64 16 (Q6 D3))) (fun W hS => ψ W) ?_
 refine MC (v := .agg (J0 .i64 16 (Q6 D5))) (fun W hS => α W) ?_
 refine MZB fun V2 => ?_
 refine MR 0 ?_ 
 refine MZn fun W hS => ?_
 go_upto_region 8 with fail
 refine RXn 7 [⟨7, 14, J0 .i64 16 (Q6 0), 124⟩] hS ?_ (by simp only [List.forall_mem_cons]; exact ⟨⟨_, rfl, rfl, rfl, fun _ _ => by kernel_rfl⟩, fun _ h => by cases h⟩)
 clear hS
 refine ML 8 ?_
 refine ML 3 ?_
 refine MC (v := .agg (J0 .i64 16 (Q6 G4))) (fun W hS => φ W) ?_
 refine ML 5 ?_
 refine ML 6 ?_
 refine MC (v := .agg (J0 .i64 16 (Q6 Ξ))) (fun W hS => η W) ?_
 refine MC (v := .agg (J0 .i64 16 (Q6 G7))) (fun W hS => ρ W) ?_
 refine MZB fun V1 => ?_
 refine MR 0 ?_ 
 refine MZn fun W hS => ?_
 go_upto_region 9 with fail
 refine RX 6 hS ?_
 clear hS
 refine ML 1 ?_
 refine ML 0 ?_
 refine ML 3 ?_
 refine ML 4 ?_
 refine MC (v := .agg (J0 .i64 16 (Q6 G2))) (fun W hS => ξ W) ?_
 refine MW ?_ (v := .agg (p3 D5 G7 G2)) (hv := by intro W; kernel_rfl)
 refine MZt ?_
 refine MR 10 ?_ (hz := by rw [Q7]; kernel_rfl) (hs := by first | rw [Q7, Q7] | rw [Q7] | kernel_rfl) (h1 := J1x)
 refine MZn fun W hS => ?_
 go_wp2
 exact bodyPost_ret (Z6 rfl rfl (hS.blk (i := 10) rfl) (by kernel_rfl) (by rw [Q7]; kernel_rfl)) rfl ⟨rfl, hS.ext⟩


end Go.Proofs.YtejkmhgkkibafaaGreatDoor.S8
