/- The order of the base: so often the base is the neutral point; points reckoned by the kernel. No conditions. scalar.Neg. scalar.Mul. scalar.Canon and Clamp. scalar.Canon: 32 bytes below the order, or none. -/
import Derived.Test.YtejkmhgkkibafaaGreatDoorJ8
import Derived.Test.YtejkmhgkkibafaaGreatDoorOz
import Derived.Test.YtejkmhgkkibafaaGreatDoorJ11
import Derived.Test.YtejkmhgkkibafaaGreatDoorS8Ei
import Derived.Test.YtejkmhgkkibafaaGreatDoorS8Na
import Derived.Test.YtejkmhgkkibafaaGreatDoorGa
set_option linter.unusedSimpArgs false
set_option linter.unusedVariables false
namespace Go.Proofs.YtejkmhgkkibafaaGreatDoor.S8
set_option maxRecDepth 100000

abbrev Q4 := Nat × Nat × Nat × Nat
def RQ4 (s : Q4) (a : Pr) : Prop := RN s.1 s.2.1 s.2.2.1 s.2.2.2 a
def twN : Q4 → Q4
  | (X, Y, Z, _) =>
    let A := X * X % PP
    let B := Y * Y % PP
    let C := (Z * Z % PP + Z * Z % PP) % PP
    let H := (A + B) % PP
    let S := (X + Y) % PP
    let E := (H + (PP - S * S % PP % PP)) % PP
    let G := (A + (PP - B % PP)) % PP
    let F := (C + G) % PP
    (E * F % PP, G * H % PP, F * G % PP, E * H % PP)
def adN : Q4 → Q4 → Q4
  | (X1, Y1, Z1, T1), (X2, Y2, Z2, T2) =>
    let A := (Y1 + (PP - X1 % PP)) % PP * ((Y2 + (PP - X2 % PP)) % PP) % PP
    let B := (Y1 + X1) % PP * ((Y2 + X2) % PP) % PP
    let C := T1 * D2 % PP * T2 % PP
    let D := (Z1 + Z1) % PP * Z2 % PP
    let E := (B + (PP - A % PP)) % PP
    let F := (D + (PP - C % PP)) % PP
    let G := (D + C) % PP
    let H := (B + A) % PP
    (E * F % PP, G * H % PP, F * G % PP, E * H % PP)
/-- the highest c bits of 256 of n times P -/
def tmN (P : Q4) (n : Nat) : Nat → Q4
  | 0 => (0, 1, 1, 0)
  | c + 1 => if n / 2 ^ (255 - c) % 2 = 1 then adN (twN (tmN P n c)) P else twN (tmN P n c)
theorem rq_tw {s : Q4} {a : Pr} (h : RQ4 s a) : RQ4 (twN s) (padd a a) := by
  obtain ⟨X, Y, Z, T⟩ := s
  exact rn_twice (X := X) (Y := Y) (Z := Z) (T := T) h rfl rfl rfl rfl rfl rfl rfl rfl rfl rfl rfl rfl rfl rfl
theorem rq_ad {s t : Q4} {a b : Pr} (h : RQ4 s a) (k : RQ4 t b) : RQ4 (adN s t) (padd a b) := by
  obtain ⟨X1, Y1, Z1, T1⟩ := s
  obtain ⟨X2, Y2, Z2, T2⟩ := t
  exact rn_add (X1 := X1) (Y1 := Y1) (Z1 := Z1) (T1 := T1) (X2 := X2) (Y2 := Y2) (Z2 := Z2) (T2 := T2) h k rfl rfl rfl rfl rfl rfl rfl rfl rfl rfl rfl rfl rfl rfl rfl rfl rfl rfl
theorem rq_tm {P : Q4} {a : Pr} {n : Nat} (hP : RQ4 P a) (hn : n < 2 ^ 256) : ∀ c, c ≤ 256 → RQ4 (tmN P n c) (pm a (n / 2 ^ (256 - c)))
  | 0, _ => by
    rw [show 256 - 0 = 256 by decide, Nat.div_eq_of_lt hn]
    exact rn_p0
  | c + 1, h => by
    have ih := rq_tm hP hn c (by omega)
    rw [show 256 - c = (255 - c) + 1 by omega] at ih
    rw [show 256 - (c + 1) = 255 - c by omega]
    have e2 : n / 2 ^ (255 - c + 1) = n / 2 ^ (255 - c) / 2 := by rw [Nat.pow_succ, Nat.div_div_eq_div_mul]
    rw [e2] at ih
    unfold tmN
    generalize n / 2 ^ (255 - c) = m at *
    have hm := Nat.div_add_mod m 2
    have htw := rq_tw ih
    rw [← pm_twice hP.on] at htw
    split
    · rename_i h1
      have := rq_ad htw hP
      rwa [show padd (pm a (2 * (m / 2))) a = pm a m by rw [show m = 2 * (m / 2) + 1 by omega]; exact congrArg (fun k => padd (pm a (2 * k)) a) (by omega)] at this
    · rwa [show 2 * (m / 2) = m by omega] at htw
theorem rq_all {P : Q4} {a : Pr} {n : Nat} (hP : RQ4 P a) (hn : n < 2 ^ 256) : RQ4 (tmN P n 256) (pm a n) := by
  have := rq_tm hP hn 256 (Nat.le_refl _)
  rwa [Nat.sub_self, Nat.pow_zero, Nat.div_one] at this
/-- the neutral point by its numbers -/
theorem rq_zero {s : Q4} {a : Pr} (h : RQ4 s a) (h1 : s.1 = 0) (h2 : s.2.1 = s.2.2.1) : a = p0 := by
  obtain ⟨hz, hx, hy, _⟩ := h.rc
  rw [h1, fp_zero] at hx
  rw [h2] at hy
  have e1 : a.1 = 0 := (zero_prod hx.symm).resolve_right hz
  have e2 : a.2 = 1 := by
    have := finv_mul hz
    have e : (a.2 - 1) * fp s.2.2.1 = 0 := by grind
    have := (zero_prod e).resolve_right hz
    grind
  exact Prod.ext e1 e2
open Sc (LL)
def BQ : Q4 := (BX, BY, 1, BX * BY % PP)
theorem rq_base : RQ4 BQ BP := rn_of (by decide) (by decide) BP_on rfl
theorem order_x : (tmN BQ LL 256).1 = 0 ∧ (tmN BQ LL 256).2.1 = (tmN BQ LL 256).2.2.1 := by decide +kernel
/-- the order times the base is the neutral point -/
theorem pm_LL : pm BP LL = p0 := rq_zero (rq_all rq_base (by decide)) order_x.1 order_x.2
theorem pm_mod (n : Nat) : pm BP (n % LL) = pm BP n := by
  have h := Nat.div_add_mod n LL
  have e : pm BP n = padd (pm BP (LL * (n / LL))) (pm BP (n % LL)) := by rw [← pm_add BP_on, h]
  rw [e, pm_mul BP_on, pm_LL, pm_p0, p0_padd]
end Go.Proofs.YtejkmhgkkibafaaGreatDoor.S8

set_option linter.unusedSimpArgs false
set_option linter.unusedVariables false
namespace Go.Proofs.YtejkmhgkkibafaaGreatDoor.S8.Sc
set_option maxHeartbeats 4000000
set_option maxRecDepth 100000
open Go.RowKit

theorem lim_ext (A B : Nat) (hA : A < P256) (hB : B < P256) (h : ∀ i, i < 4 → lim A i = lim B i) : A = B := by
  rw [← val4_lim A hA, ← val4_lim B hB, h 0 (by omega), h 1 (by omega), h 2 (by omega), h 3 (by omega)]
end Go.Proofs.YtejkmhgkkibafaaGreatDoor.S8.Sc

namespace Go.Proofs.YtejkmhgkkibafaaGreatDoor.S8.Sc
set_option maxHeartbeats 4000000
set_option maxRecDepth 100000
open Go.RowKit

theorem fold8_c (f : Nat → Int) (b : Nat) (hf : ∀ j, j < 8 → u64ok (f j)) (w : World) (hG : GL w) (hB : Blk w b (arrK .u64 8 f) 186) :
    Calls Tryz.prog 133 #[.slice (some ⟨b, 0, none⟩) 8 8] w fun e w' => Ret (L4 (wval f 8 % LL)) w w' e :=
  fold_c f b 0 8 8 w hG (by omega) hf (fun j hj => by rw [Nat.zero_add]; exact (blk_cell hB _).trans (arrK_get _ _ _ _ hj)) (blk_lt hB)

theorem c4_get (V i : Nat) (h : i < 4) : (c4 V)[i]? = some (.int .u64 (lim V i)) := by
  have : i = 0 ∨ i = 1 ∨ i = 2 ∨ i = 3 := by omega
  rcases this with rfl | rfl | rfl | rfl <;> rfl

theorem mul_row (i k : Nat) (x y g c s cv : Int) (V V' Y Y' X B0 : Nat) (hx : u64ok x) (hy : u64ok y) (hg : u64ok g) (hc : u64ok c) (hs : u64ok s) (hcv : u64ok cv)
    (h5 : s + 18446744073709551616 * cv = x * y + g + c) (h1 : V' + g.toNat * 2 ^ (64 * (i + k)) = V + s.toNat * 2 ^ (64 * (i + k)))
    (h2 : V + c.toNat * 2 ^ (64 * (i + k)) = X + x.toNat * 2 ^ (64 * i) * Y) (hY : Y' = Y + y.toNat * 2 ^ (64 * k)) :
    V' + cv.toNat * 2 ^ (64 * (i + (k + 1))) = X + x.toNat * 2 ^ (64 * i) * Y' := by
  obtain ⟨x, rfl⟩ := Int.eq_ofNat_of_zero_le hx.1
  obtain ⟨y, rfl⟩ := Int.eq_ofNat_of_zero_le hy.1
  obtain ⟨g, rfl⟩ := Int.eq_ofNat_of_zero_le hg.1
  obtain ⟨c, rfl⟩ := Int.eq_ofNat_of_zero_le hc.1
  obtain ⟨s, rfl⟩ := Int.eq_ofNat_of_zero_le hs.1
  obtain ⟨d, rfl⟩ := Int.eq_ofNat_of_zero_le hcv.1
  simp only [Int.toNat_natCast] at *
  have h6 : s + 18446744073709551616 * d = x * y + g + c := by
    rw [← Int.natCast_mul] at h5
    generalize x * y = p at *
    omega
  have e1 : (2 : Nat) ^ (64 * (i + (k + 1))) = 18446744073709551616 * 2 ^ (64 * (i + k)) := by
    rw [show 64 * (i + (k + 1)) = 64 + 64 * (i + k) by omega, Nat.pow_add]
  have e2 : (2 : Nat) ^ (64 * (i + k)) = 2 ^ (64 * i) * 2 ^ (64 * k) := by rw [Nat.mul_add, Nat.pow_add]
  rw [hY, e1, Nat.mul_add (x * 2 ^ (64 * i))]
  have e3 : x * 2 ^ (64 * i) * (y * 2 ^ (64 * k)) = x * y * 2 ^ (64 * (i + k)) := by rw [e2, Nat.mul_mul_mul_comm]
  rw [e3]
  generalize 2 ^ (64 * (i + k)) = W at *
  have e4 : d * (18446744073709551616 * W) = 18446744073709551616 * d * W := by rw [Nat.mul_left_comm, Nat.mul_assoc]
  rw [e4]
  have h7 : s * W + 18446744073709551616 * d * W = x * y * W + g * W + c * W := by
    rw [← Nat.add_mul, h6, Nat.add_mul, Nat.add_mul]
  omega

theorem row_end (B V' V C X Y W : Nat) {g : Int} (hB : B < P256) (hg : g = 0) (h1 : V' + g.toNat * W = V + C) (h2 : V + C = X + Y * (B % 2 ^ (64 * 4))) : V' = X + Y * B := by
  rw [Nat.mod_eq_of_lt (show B < 2 ^ (64 * 4) from hB)] at h2
  rw [hg, Int.toNat_zero, Nat.zero_mul, Nat.add_zero] at h1
  rw [h1, h2]

theorem mul_c (A B : Nat) (hA : A < P256) (hB : B < P256) (w : World) (hG : GL w) :
    Calls Tryz.prog 94 #[L4 A, L4 B] w fun e w' => Ret (L4 (A * B % LL)) w w' e := by
  have HG := Lib.hid hG
  clear hG
  go_enter Tryz.func94, Tryz.ntmps94
  go_wp2
  go_loopw [16] (fun ii wr => ∃ i : Nat, i ≤ 4 ∧ ii = .int .i64 i ∧ Below w.heap.size w wr ∧
      Blk wr (w.heap.size + 1) (c4 B) 153 ∧ Blk wr (w.heap.size + 2) #[.int .u64 0, .int .u64 0, .int .u64 0, .int .u64 0] 153 ∧
      ∃ f : Nat → Int, Blk wr (w.heap.size + 3) (arrK .u64 8 f) 186 ∧ (∀ j, u64ok (f j)) ∧ (∀ j, i + 4 ≤ j → f j = 0) ∧ wval f 8 = A % 2 ^ (64 * i) * B)
    (fun ii _ => (4 - intOf ii).toNat)
  case atStart =>
    refine ⟨0, by omega, rfl, ?_, blk_alloc (blk_alloc (blk_new _ _ (by simp)) _) _, blk_alloc (blk_new _ _ (by simp)) _, fun _ => 0, blk_new _ _ (by simp), fun _ => ⟨by simp, by simp⟩, fun _ _ => rfl, ?_⟩
    · exact bz
    · rw [wval_zero, Nat.mul_zero, Nat.pow_zero, Nat.mod_one, Nat.zero_mul]
  case round =>
    obtain ⟨i, hi, rfl, hbel, b1, b2, f, b3, hf, hf0, hv⟩ := hrel
    by_cases hi4 : i = 4
    · subst hi4
      have HV := Lib.hid hv
      clear hv
      have c2 := blk_cell b2
      have f2 := blk_free b2
      go_wp2_with (go_at_call 133; refine (fold8_c f (w.heap.size + 3) (fun j _ => hf j) _ (GL_below HG.out hbel HG.out.2.2.2.2) b3).mono ?_; rintro e w1 ⟨rfl, hb1⟩; have c21 := blk_cell (blk_step b2 hb1); have f21 := blk_free (blk_step b2 hb1))
      refine bodyPost_ret (v := L4 (wval f 8 % LL)) (by simp only [results, Tryz.results94]; go_simp) rfl ⟨?_, ?_⟩
      · rw [HV.out, Nat.mod_eq_of_lt (show A < 2 ^ (64 * 4) from hA)]
      · have := hb1.size
        have := hbel.size
        exact bz
    · have hi3 : i < 4 := by omega
      have hi3' : (i : Int) < 4 := by omega
      have hix : ∀ W, (Instr.index 153 (.agg #[.int .u64 (lim A 0), .int .u64 (lim A 1), .int .u64 (lim A 2), .int .u64 (lim A 3)]) (.int .i64 (i : Int))).run Tryz.prog W = .ok (.int .u64 (lim A i)) W :=
        fun W => run_index_arr W 153 71 4 .u64 .i64 (c4 A) i (lim A i) Tryz.underlying153 Tryz.underlying71 (by kernel_rfl) hi3 (c4_get A i hi3)
      have c1 := blk_cell b1
      clear hi4
      go_wp2
      clear c1
      have HF0 := Lib.hid hf0
      have HV := Lib.hid hv
      clear hf0 hv hix hi3'
      obtain ⟨wo, rfl⟩ : ∃ wo : World, wo = wr := ⟨_, rfl⟩
      go_loopw [8, 21] (fun cc kk wq => ∃ (k : Nat) (c : Int), k ≤ 4 ∧ kk = .int .i64 k ∧ cc = .int .u64 c ∧ u64ok c ∧ Below w.heap.size w wq ∧
          Blk wq (w.heap.size + 1) (c4 B) 153 ∧ Blk wq (w.heap.size + 2) #[.int .u64 0, .int .u64 0, .int .u64 0, .int .u64 0] 153 ∧
          ∃ g : Nat → Int, Blk wq (w.heap.size + 3) (arrK .u64 8 g) 186 ∧ (∀ j, u64ok (g j)) ∧ (∀ j, i + 4 ≤ j → g j = 0) ∧
            wval g 8 + c.toNat * 2 ^ (64 * (i + k)) = A % 2 ^ (64 * i) * B + (lim A i).toNat * 2 ^ (64 * i) * (B % 2 ^ (64 * k)))
        (fun _ kk _ => (4 - intOf kk).toNat)
      case atStart =>
        refine ⟨0, 0, by omega, rfl, rfl, ⟨by omega, by omega⟩, hbel, b1, b2, f, b3, hf, HF0.out, ?_⟩
        rw [HV.out, Nat.mul_zero, Nat.pow_zero, Nat.mod_one]; simp
      case round =>
        obtain ⟨k, c, hk, rfl, rfl, hc, hbel, b1, b2, g, b3, hg, hg0, hv⟩ := hrel
        have HG0 := Lib.hid hg0
        have HV := Lib.hid hv
        clear hg0 hv HF0
        by_cases hk4 : k = 4
        · subst hk4
          have c3 := (blk_cell b3 (i + 4)).trans (arrK_get _ _ _ _ (by omega))
          have f3 := blk_free b3
          have hi8 : (i : Int) + 4 < 8 := by omega
          go_wp2
          have hs := blk_set b3 (i + 4) (.int .u64 c)
          rw [arrK_set] at hs
          go_roundw
          case rel =>
            refine ⟨i + 1, by omega, by go_num, ?_, blk_other b1 (by omega) _ _, blk_other b2 (by omega) _ _, upd g (i + 4) c, hs, ?_, ?_, ?_⟩
            · exact bz
            · intro j
              by_cases hj : j = i + 4
              · subst hj; rw [upd_same]; exact hc
              · rw [upd_other _ _ _ _ hj]; exact hg j
            · intro j hj
              rw [upd_other _ _ _ _ (by omega)]
              exact HG0.out j (by omega)
            · rw [mod_step, Nat.add_mul]
              exact row_end B _ _ _ _ _ _ hB (HG0.out (i + 4) (by omega)) (wval_upd g (i + 4) c 8 (by omega)) HV.out
          case measure => simp [intOf]; omega
        · have hk3 : k < 4 := by omega
          have hk3' : (k : Int) < 4 := by omega
          clear hk4
          have hix : ∀ W, (Instr.index 153 (.agg #[.int .u64 (lim B 0), .int .u64 (lim B 1), .int .u64 (lim B 2), .int .u64 (lim B 3)]) (.int .i64 (k : Int))).run Tryz.prog W = .ok (.int .u64 (lim B k)) W :=
            fun W => run_index_arr W 153 71 4 .u64 .i64 (c4 B) k (lim B k) Tryz.underlying153 Tryz.underlying71 (by kernel_rfl) hk3 (c4_get B k hk3)
          obtain ⟨m1, m2, m3, m4, m5⟩ := mul_step (lim A i) (lim B k) (g (i + k)) c (lim_ok A i) (lim_ok B k) (hg _) hc
          have a1 := add64_run (mulL (lim A i) (lim B k)) (g (i + k)) 0 m1 (hg _) (by omega) (by omega)
          have a2 := add64_run (adS (mulL (lim A i) (lim B k)) (g (i + k)) 0) c 0 m2 hc (by omega) (by omega)
          obtain ⟨sv, hsv⟩ : ∃ sv, sv = adS (adS (mulL (lim A i) (lim B k)) (g (i + k)) 0) c 0 := ⟨_, rfl⟩
          rw [← hsv] at m4 m5 a2
          have M5 := Lib.hid m5
          clear m5 hsv
          have c3 := (blk_cell b3 (i + k)).trans (arrK_get _ _ _ _ (by omega))
          have f3 := blk_free b3
          have hi8 : (i : Int) + (k : Int) < 8 := by omega
          go_wp2_with (go_at_call 141; refine (mul64_c _ _ (lim_ok A i) (lim_ok B k) _).mono ?_; rintro e w' ⟨rfl, rfl⟩)
          have hs := blk_set b3 (i + k) (.int .u64 sv)
          rw [arrK_set] at hs
          have h1 := wval_upd g (i + k) sv 8 (by omega)
          have h2 := HV.out
          have h5 := M5.out
          clear HV M5 a1 a2 c3 f3 hix
          go_roundw
          case rel =>
            (repeat apply Exists.intro)
            refine ⟨?_, rfl⟩
            refine ⟨k + 1, _, by omega, by go_num, rfl, m3, ?_, blk_other b1 (by omega) _ _, blk_other b2 (by omega) _ _, upd g (i + k) sv, hs, ?_, ?_, ?_⟩
            · exact bz
            · intro j
              by_cases hj : j = i + k
              · subst hj; rw [upd_same]; exact m4
              · rw [upd_other _ _ _ _ hj]; exact hg j
            · intro j hj
              rw [upd_other _ _ _ _ (by omega)]
              exact HG0.out j hj
            · exact mul_row i k (lim A i) (lim B k) (g (i + k)) c sv _ _ _ _ _ _ 0 (lim_ok A i) (lim_ok B k) (hg _) hc m4 m3 h5 h1 h2 (mod_step B k)
          case measure => simp [intOf]; omega
end Go.Proofs.YtejkmhgkkibafaaGreatDoor.S8.Sc

set_option linter.unusedSimpArgs false
set_option linter.unusedVariables false
namespace Go.Proofs.YtejkmhgkkibafaaGreatDoor.S8.Sc
set_option maxHeartbeats 4000000
set_option maxRecDepth 100000
open Go.RowKit

end Go.Proofs.YtejkmhgkkibafaaGreatDoor.S8.Sc

namespace Go.Proofs.YtejkmhgkkibafaaGreatDoor.S8.Sc
set_option maxHeartbeats 4000000
set_option maxRecDepth 100000
open Go.RowKit

def canonV (n : Nat) : Value := if n < LL then .tuple #[L4 n, .bool true] else .tuple #[L4 0, .bool false]
theorem c4_arr (V : Nat) : c4 V = arrK .u64 4 (lim V) := rfl
theorem lim_zero (i : Nat) : lim 0 i = 0 := by simp [lim]
theorem arr_zero : arrK .u64 4 (lim 0) = #[.int .u64 0, .int .u64 0, .int .u64 0, .int .u64 0] := by
  show #[Value.int .u64 (lim 0 0), Value.int .u64 (lim 0 1), Value.int .u64 (lim 0 2), Value.int .u64 (lim 0 3)] = _
  rw [lim_zero, lim_zero, lim_zero, lim_zero]
theorem word_set (bs : Nat → Int) (h : ∀ j, u8ok (bs j)) (n q r : Nat) (hr : r < 8) :
    (arrK .u64 n (lim (bval bs (8 * q + r)))).setIfInBounds q (.int .u64 (bits .or .u64 (lim (bval bs (8 * q + r)) q) (IntKind.wrap .u64 (bs (8 * q + r) * 2 ^ (8 * r))))) = arrK .u64 n (lim (bval bs (8 * q + r + 1))) := by
  rw [word_or bs h q r hr, arrK_set]
  apply arrK_congr
  intro j _
  by_cases hj : j = q
  · subst hj; rw [upd_same]
  · rw [upd_other _ _ _ _ hj, lim_bval_other bs h (8 * q + r) j (by omega)]

theorem canon_c (bs : Nat → Int) (hbs : ∀ j, u8ok (bs j)) (w : World) (hG : GL w) :
    Calls Tryz.prog 105 #[.agg (arrK .u8 32 bs)] w fun e w' => Ret (canonV (bval bs 32)) w w' e := by
  have HG := Lib.hid hG
  have n0 := hG.2.2.2.2
  clear hG
  have HB := Lib.hid hbs
  clear hbs
  go_enter Tryz.func105, Tryz.ntmps105
  go_wp2_with (refine wpList_load_row rfl 23 (.tmp 1) rfl w.heap.size rfl 23 (arrK .u8 32 bs) (0, 0) _ (blk_alloc (blk_alloc (blk_new _ _ rfl) _) _) Tryz.underlying23 rfl (by kernel_rfl) ?_)
  go_loopw [8] (fun ii wr => ∃ k : Nat, k ≤ 32 ∧ ii = .int .i64 k ∧ Below w.heap.size w wr ∧
      Blk wr (w.heap.size + 1) #[.int .u64 0, .int .u64 0, .int .u64 0, .int .u64 0] 153 ∧ Blk wr (w.heap.size + 2) (arrK .u64 4 (lim (bval bs k))) 153)
    (fun ii _ => (32 - intOf ii).toNat)
  case atStart =>
    refine ⟨0, by omega, rfl, ?_, ?_, ?_⟩
    · exact bz
    · exact blk_alloc (blk_new _ _ (World.size_alloc _ _).symm) _
    · rw [show bval bs 0 = 0 from rfl, arr_zero]; exact blk_new _ _ (by simp)
  case round =>
    obtain ⟨k, hk, rfl, hbel, b1, b2⟩ := hrel
    by_cases hk32 : k = 32
    · subst hk32
      have hV : bval bs 32 < P256 := bval_lt bs HB.out 32
      rw [← c4_arr] at b2
      have HG2 := Lib.hid (GL_below HG.out hbel HG.out.2.2.2.2)
      have off0.size := hbel.size
      have sz2 := blk_lt b2
      have c2 := blk_cell b2
      obtain ⟨g0, g1, g2, g3, g4⟩ := HG2.out
      go_wp2_with fail
      refine (lessO (bval bs 32) hV _).mono ?_
      rintro e w1 ⟨rfl, hb1⟩
      have c21 := blk_cell (blk_step b2 hb1)
      have c11 := blk_cell (blk_step b1 hb1)
      have f11 := blk_free (blk_step b1 hb1)
      have s1 := hb1.size
      have n1 : w.heap.size + 1 < w.heap.size + 2 := by omega
      clear c2
      by_cases hlt : bval bs 32 < LL
      · rw [show decide (bval bs 32 < LL) = true from decide_eq_true hlt]
        have HL := Lib.hid hlt
        clear hlt
        go_wp2
        refine bodyPost_ret (v := .tuple #[L4 (bval bs 32), .bool true]) (by simp only [results, Tryz.results105]; go_simp) rfl ⟨(by unfold canonV; rw [if_pos HL.out]), ?_⟩
        exact bz
      · rw [show decide (bval bs 32 < LL) = false from decide_eq_false hlt]
        have HL := Lib.hid hlt
        clear hlt
        go_wp2
        refine bodyPost_ret (v := .tuple #[A4 0 0 0 0, .bool false]) (by simp only [results, Tryz.results105]; go_simp) rfl ⟨(by unfold canonV; rw [if_neg HL.out]; rfl), ?_⟩
        exact bz
    · obtain ⟨q, r, hr, rfl⟩ : ∃ q r, r < 8 ∧ k = 8 * q + r := ⟨k / 8, k % 8, by omega, by omega⟩
      have hix : ∀ W, (Instr.index 23 (.agg (arrK .u8 32 bs)) (.int .i64 (8 * (q : Int) + (r : Int)))).run Tryz.prog W = .ok (.int .u8 (bs (8 * q + r))) W :=
        fun W => run_index_arr W 23 5 32 .u8 .i64 _ (8 * q + r) _ Tryz.underlying23 Tryz.underlying5 (by kernel_rfl) (by omega) (arrK_get _ _ _ _ (by omega))
      have d1 : IntKind.i64.wrap ((8 * (q : Int) + (r : Int)).tdiv 8) = (q : Int) := by rw [Int.tdiv_eq_ediv_of_nonneg (by omega), IntWalk.i64_in _ (by omega)]; omega
      have d2 : (8 * (q : Int) + (r : Int)).tmod 8 = (r : Int) := by rw [Int.tmod_eq_emod_of_nonneg (by omega)]; omega
      have d3 : IntKind.i64.wrap (8 * (r : Int)) = 8 * (r : Int) := IntWalk.i64_in _ (by omega)
      have d4 : IntKind.u64.wrap (bs (8 * q + r)) = bs (8 * q + r) := by have := HB.out (8 * q + r); unfold u8ok at this; rw [IntKind.wrap_u64]; omega
      have hq0 : (0 : Int) ≤ (q : Int) := by omega
      have hq1 : (q : Int) < 4 := by omega
      have hr0 : (0 : Int) ≤ (r : Int) := by omega
      have hr1 : (r : Int) < 8 := by omega
      have c2 := (blk_cell b2 q).trans (arrK_get _ _ _ _ (by omega))
      have f2 := blk_free b2
      have hs := fun v => blk_set b2 q v
      go_wp2
      go_region
      go_wp2
      have off0.size := hbel.size
      go_roundw
      case rel =>
        refine ⟨8 * q + r + 1, by omega, by go_num, ?_, blk_drew (blk_other b1 (by omega) _ _), ?_⟩
        · exact bz
        · have := hs (.int .u64 (bits .or .u64 (lim (bval bs (8 * q + r)) q) (IntKind.wrap .u64 (bs (8 * q + r) * 2 ^ (8 * r)))))
          rw [word_set bs HB.out 4 q r hr] at this
          exact blk_drew this
      case measure => simp [intOf]; omega
end Go.Proofs.YtejkmhgkkibafaaGreatDoor.S8.Sc
