/- Contracts and plain laws that superChecks_holds rests on. Conditions: the variables' cells hold the numbers of the program's text. -/
import Derived.Test.YtejkmhgkkibafaaGreatDoorJ6
import Derived.Test.YtejkmhgkkibafaaGreatDoorJ3
import Derived.Test.YtejkmhgkkibafaaGreatDoorJ8
import Derived.Test.YtejkmhgkkibafaaGreatDoorGa
import Derived.Deep.QuietTactic
import Derived.BigQuiet
import Derived.BigRegion
import Derived.Lib.Hide
import Derived.Deep.RegionHeld3
import Derived.Deep.RegionWith
import Derived.StillTailTactics
import Derived.Test.YtejkmhgkkibafaaGreatDoorS8Ei
open Go.RowKit
set_option maxRecDepth 100000
set_option linter.unusedSimpArgs false
set_option linter.unusedVariables false
namespace Go.Proofs.YtejkmhgkkibafaaGreatDoor.S8.Sc
section
set_option maxHeartbeats 2000000

def LL : Nat := 7237005577332262213973186563042994240857116359379907606001950938285454250989
def GL (w : World) : Prop := w.cell? ⟨7, 0, none⟩ = some (.int .u64 6346243789798364141) ∧ w.cell? ⟨7, 1, none⟩ = some (.int .u64 1503914060200516822) ∧ w.cell? ⟨7, 2, none⟩ = some (.int .u64 0) ∧ w.cell? ⟨7, 3, none⟩ = some (.int .u64 1152921504606846976) ∧ 7 < w.heap.size
theorem J3s {B : Nat} {w w' : World} (h : GL w) (hb : Below B w w') (hB : 7 < B) : GL w' := by
  obtain ⟨h0, h1, h2, h3, h4⟩ := h
  refine ⟨?_, ?_, ?_, ?_, Nat.lt_of_lt_of_le h4 hb.size⟩
  · rw [hb.cell (p := ⟨7, 0, none⟩) hB]; exact h0
  · rw [hb.cell (p := ⟨7, 1, none⟩) hB]; exact h1
  · rw [hb.cell (p := ⟨7, 2, none⟩) hB]; exact h2
  rw [hb.cell (p := ⟨7, 3, none⟩) hB]; exact h3

theorem Q7f (a0 a1 a2 a3 b0 b1 b2 b3 : Int) (ha : U4 a0 a1 a2 a3) (hb : U4 b0 b1 b2 b3) (w : World) :
    Calls Tryz.prog 140 #[A4 a0 a1 a2 a3, A4 b0 b1 b2 b3] w fun e w' =>
      K6 (.tuple #[L4 (J6x (J0p a0 a1 a2 a3) (J0p b0 b1 b2 b3)), .int .u64 (brw (J0p a0 a1 a2 a3) (J0p b0 b1 b2 b3))]) w w' e := by
  have D := Q3u a0 a1 a2 a3 b0 b1 b2 b3 ha hb
  have HC := Lib.hid D
  clear D
  have h0 := J3e a0 b0 0 ha.1 hb.1 (by omega) (by omega)
  have h1 := J3e a1 b1 _ ha.2.1 hb.2.1 (J4p a0 b0 0).1 (J4p a0 b0 0).2
  have h2 := J3e a2 b2 _ ha.2.2.1 hb.2.2.1 (J4p a1 b1 (sbB a0 b0 0)).1 (J4p a1 b1 (sbB a0 b0 0)).2
  have h3 := J3e a3 b3 _ ha.2.2.2 hb.2.2.2 (J4p a2 b2 (sbB a1 b1 (sbB a0 b0 0))).1 (J4p a2 b2 (sbB a1 b1 (sbB a0 b0 0))).2
  clear ha hb
  go_enter Tryz.func140, Tryz.ntmps140
  go_wp2
  refine wp_loop_rounds 5 ?_
  rw [rounds_succ]
  go_wp2
  go_region
  go_wp2
  rw [rounds_succ]
  go_wp2
  go_region
  go_wp2
  rw [rounds_succ]
  go_wp2
  go_region
  go_wp2
  rw [rounds_succ]
  go_wp2
  go_region
  go_wp2
  rw [rounds_succ]
  go_wp2
  refine bodyPost_ret (v := .tuple #[A4 (sbD a0 b0 0) (sbD a1 b1 (sbB a0 b0 0)) (sbD a2 b2 (sbB a1 b1 (sbB a0 b0 0))) (sbD a3 b3 (sbB a2 b2 (sbB a1 b1 (sbB a0 b0 0)))), .int .u64 (sbB a3 b3 (sbB a2 b2 (sbB a1 b1 (sbB a0 b0 0))))]) (by simp [results, Tryz.results140, go_sem]) rfl ⟨?_, ?_⟩
  · rw [HC.out.1, HC.out.2]
  exact bz

theorem Z7l (a0 a1 a2 a3 b0 b1 b2 b3 : Int) (ha : U4 a0 a1 a2 a3) (hb : U4 b0 b1 b2 b3) (w : World) :
    Calls Tryz.prog 139 #[A4 a0 a1 a2 a3, A4 b0 b1 b2 b3] w fun e w' =>
      K6 (.bool (decide (J0p a0 a1 a2 a3 < J0p b0 b1 b2 b3))) w w' e := by
  go_enter Tryz.func139, Tryz.ntmps139
  go_wp2_with (go_at_call 140; refine (Q7f _ _ _ _ _ _ _ _ ha hb _).mono ?_; rintro e w1 ⟨rfl, D⟩)
  go_ret
  refine ⟨?_, ?_⟩
  · unfold brw; split <;> simp [*]
  have s1 := D.size
  simp only [World.size_alloc] at s1
  exact bz

theorem Q31 : U4 6346243789798364141 1503914060200516822 0 1152921504606846976 := by simp [U4, V4]
theorem J8x : J0p 6346243789798364141 1503914060200516822 0 1152921504606846976 = LL := by decide +kernel
theorem L4_order : L4 LL = A4 6346243789798364141 1503914060200516822 0 1152921504606846976 := by rw [Z0f _ _ _ _ Q31, J8x]


theorem Q9k (a0 a1 a2 a3 bit : Int) (ha : U4 a0 a1 a2 a3) (hb0 : 0 ≤ bit) (hb1 : bit ≤ 1) (hA : J0p a0 a1 a2 a3 < LL) :
    U4 (bits .or .u64 (IntKind.wrap .u64 (a0 * 2)) bit) (bits .or .u64 (IntKind.wrap .u64 (a1 * 2)) (a0 / 9223372036854775808)) (bits .or .u64 (IntKind.wrap .u64 (a2 * 2)) (a1 / 9223372036854775808)) (bits .or .u64 (IntKind.wrap .u64 (a3 * 2)) (a2 / 9223372036854775808)) ∧
    J0p (bits .or .u64 (IntKind.wrap .u64 (a0 * 2)) bit) (bits .or .u64 (IntKind.wrap .u64 (a1 * 2)) (a0 / 9223372036854775808)) (bits .or .u64 (IntKind.wrap .u64 (a2 * 2)) (a1 / 9223372036854775808)) (bits .or .u64 (IntKind.wrap .u64 (a3 * 2)) (a2 / 9223372036854775808)) = 2 * J0p a0 a1 a2 a3 + bit.toNat := by
  obtain ⟨h0, h1, h2, h3⟩ := ha
  rw [Q14 a0 bit h0 hb0 hb1, Q14 a1 _ h1 (by unfold V4 at h0; omega) (by unfold V4 at h0; omega), Q14 a2 _ h2 (by unfold V4 at h1; omega) (by unfold V4 at h1; omega), Q14 a3 _ h3 (by unfold V4 at h2; omega) (by unfold V4 at h2; omega)]
  have hu : U4 (a0 * 2 % 18446744073709551616 + bit) (a1 * 2 % 18446744073709551616 + a0 / 9223372036854775808) (a2 * 2 % 18446744073709551616 + a1 / 9223372036854775808) (a3 * 2 % 18446744073709551616 + a2 / 9223372036854775808) := by
    unfold U4 V4 at *; omega
  refine ⟨hu, ?_⟩
  have i1 := J4b _ _ _ _ hu
  have i2 := J4b _ _ _ _ ⟨h0, h1, h2, h3⟩
  have h3' : a3 < 1152921504606846977 := by
    have : (J0p a0 a1 a2 a3 : Int) < LL := by exact_mod_cast hA
    rw [i2] at this
    unfold LL V4 at *
    omega
  generalize J0p (a0 * 2 % 18446744073709551616 + bit) (a1 * 2 % 18446744073709551616 + a0 / 9223372036854775808) (a2 * 2 % 18446744073709551616 + a1 / 9223372036854775808) (a3 * 2 % 18446744073709551616 + a2 / 9223372036854775808) = X at *
  generalize J0p a0 a1 a2 a3 = A at *
  clear hA hu
  unfold V4 at *
  omega

theorem Z7m (x : Nat) (h : x < 2 * LL) (hx : ¬ x < LL) : J6x x LL = x % LL := by
  have e : x % LL = x - LL := by rw [Nat.mod_eq_sub_mod (by omega), Nat.mod_eq_of_lt (by omega)]
  rw [e]; unfold J6x LL at *; omega

theorem Y24 (a0 a1 a2 a3 bit : Int) (ha : U4 a0 a1 a2 a3) (hb0 : 0 ≤ bit) (hb1 : bit ≤ 1) (hA : J0p a0 a1 a2 a3 < LL) (w : World) (hG : GL w) :
    Calls Tryz.prog 164 #[A4 a0 a1 a2 a3, .int .u64 bit] w fun e w' =>
      K6 (L4 ((2 * J0p a0 a1 a2 a3 + bit.toNat) % LL)) w w' e := by
  obtain ⟨hO, hV⟩ := Q9k a0 a1 a2 a3 bit ha hb0 hb1 hA
  have HV := Lib.hid hV
  have HA := Lib.hid hA
  clear hV hA
  have HG := Lib.hid hG
  obtain ⟨g0, g1, g2, g3, g4⟩ := hG
  have Y : ∀ o, (w.alloc o).cell? ⟨7, 0, none⟩ = w.cell? ⟨7, 0, none⟩ := fun o => World.cell?_alloc_lt w o _ g4
  have T : ∀ o o', ((w.alloc o).alloc o').cell? ⟨7, 0, none⟩ = w.cell? ⟨7, 0, none⟩ := fun o o' => (World.cell?_alloc_lt _ o' _ (by rw [World.size_alloc]; show 7 < _; omega)).trans (Y o)
  have α : ∀ o o' D, (((w.alloc o).alloc o').alloc D).cell? ⟨7, 0, none⟩ = w.cell? ⟨7, 0, none⟩ := fun o o' D => (World.cell?_alloc_lt _ D _ (by rw [World.size_alloc, World.size_alloc]; show 7 < _; omega)).trans (T o o')
  have V : ∀ o, (w.alloc o).cell? ⟨7, 1, none⟩ = w.cell? ⟨7, 1, none⟩ := fun o => World.cell?_alloc_lt w o _ g4
  have Z : ∀ o o', ((w.alloc o).alloc o').cell? ⟨7, 1, none⟩ = w.cell? ⟨7, 1, none⟩ := fun o o' => (World.cell?_alloc_lt _ o' _ (by rw [World.size_alloc]; show 7 < _; omega)).trans (V o)
  have ε : ∀ o o' D, (((w.alloc o).alloc o').alloc D).cell? ⟨7, 1, none⟩ = w.cell? ⟨7, 1, none⟩ := fun o o' D => (World.cell?_alloc_lt _ D _ (by rw [World.size_alloc, World.size_alloc]; show 7 < _; omega)).trans (Z o o')
  have R : ∀ o, (w.alloc o).cell? ⟨7, 2, none⟩ = w.cell? ⟨7, 2, none⟩ := fun o => World.cell?_alloc_lt w o _ g4
  have S : ∀ o o', ((w.alloc o).alloc o').cell? ⟨7, 2, none⟩ = w.cell? ⟨7, 2, none⟩ := fun o o' => (World.cell?_alloc_lt _ o' _ (by rw [World.size_alloc]; show 7 < _; omega)).trans (R o)
  have δ : ∀ o o' D, (((w.alloc o).alloc o').alloc D).cell? ⟨7, 2, none⟩ = w.cell? ⟨7, 2, none⟩ := fun o o' D => (World.cell?_alloc_lt _ D _ (by rw [World.size_alloc, World.size_alloc]; show 7 < _; omega)).trans (S o o')
  have X : ∀ o, (w.alloc o).cell? ⟨7, 3, none⟩ = w.cell? ⟨7, 3, none⟩ := fun o => World.cell?_alloc_lt w o _ g4
  have U : ∀ o o', ((w.alloc o).alloc o').cell? ⟨7, 3, none⟩ = w.cell? ⟨7, 3, none⟩ := fun o o' => (World.cell?_alloc_lt _ o' _ (by rw [World.size_alloc]; show 7 < _; omega)).trans (X o)
  have ζ : ∀ o o' D, (((w.alloc o).alloc o').alloc D).cell? ⟨7, 3, none⟩ = w.cell? ⟨7, 3, none⟩ := fun o o' D => (World.cell?_alloc_lt _ D _ (by rw [World.size_alloc, World.size_alloc]; show 7 < _; omega)).trans (U o o')
  obtain ⟨⟨l0, u0⟩, ⟨l1, u1⟩, ⟨l2, u2⟩, ⟨l3, u3⟩⟩ := ha
  go_enter Tryz.func164, Tryz.ntmps164
  go_wp2
  refine wp_loop_rounds 5 ?_
  rw [rounds_succ]
  go_wp2
  rw [rounds_succ]
  go_wp2
  rw [rounds_succ]
  go_wp2
  rw [rounds_succ]
  go_wp2
  rw [rounds_succ]
  go_wp2_with fail
  generalize bits .or .u64 (IntKind.wrap .u64 (a0 * 2)) bit = o0 at *
  generalize bits .or .u64 (IntKind.wrap .u64 (a1 * 2)) (a0 / 9223372036854775808) = o1 at *
  generalize bits .or .u64 (IntKind.wrap .u64 (a2 * 2)) (a1 / 9223372036854775808) = o2 at *
  generalize bits .or .u64 (IntKind.wrap .u64 (a3 * 2)) (a2 / 9223372036854775808) = o3 at *
  refine (Z7l _ _ _ _ _ _ _ _ hO Q31 _).mono ?_
  rintro e w1 ⟨rfl, hb1⟩
  rw [J8x]
  obtain ⟨J, N⟩ := Y4t hb1
  have s1 := hb1.size
  simp only [World.size_alloc] at s1 J N
  have z1 : w.heap.size + 1 < w1.heap.size := by omega
  have q0 : w1.cell? ⟨7, 0, none⟩ = some (.int .u64 6346243789798364141) := by rw [J _ _ (by omega)]; go_simp
  have q1 : w1.cell? ⟨7, 1, none⟩ = some (.int .u64 1503914060200516822) := by rw [J _ _ (by omega)]; go_simp
  have q2 : w1.cell? ⟨7, 2, none⟩ = some (.int .u64 0) := by rw [J _ _ (by omega)]; go_simp
  have q3 : w1.cell? ⟨7, 3, none⟩ = some (.int .u64 1152921504606846976) := by rw [J _ _ (by omega)]; go_simp
  by_cases G : J0p o0 o1 o2 o3 < LL
  · rw [show decide (J0p o0 o1 o2 o3 < LL) = true from decide_eq_true G]
    have HL := Lib.hid G
    clear G
    go_wp2
    refine bodyPost_ret (v := A4 o0 o1 o2 o3) (by simp only [results, Tryz.results164]; go_simp) rfl ⟨?_, ?_⟩
    · rw [Z0f _ _ _ _ hO, ← HV.out, Nat.mod_eq_of_lt HL.out]
    exact bz
  rw [show decide (J0p o0 o1 o2 o3 < LL) = false from decide_eq_false G]
  have HL := Lib.hid G
  clear G
  go_wp2_with (go_at_call 140; refine (Q7f _ _ _ _ _ _ _ _ hO Q31 _).mono ?_; rintro e w2 ⟨rfl, M⟩; obtain ⟨β, γ⟩ := Y4t M; have s2 := M.size; have z2 : w.heap.size + 1 < w2.heap.size := by omega)
  refine bodyPost_ret (v := L4 (J6x (J0p o0 o1 o2 o3) LL)) (by simp only [results, Tryz.results164, ← J8x]; go_simp) rfl ⟨?_, ?_⟩
  · rw [← HV.out, Z7m _ (by have := HV.out; have := HA.out; omega) HL.out]
  exact bz

theorem V1e (A B : Nat) (hA : A < Q7) (hB : B < Q7) (w : World) : Calls Tryz.prog 140 #[L4 A, L4 B] w fun e w' => K6 (.tuple #[L4 (J6x A B), .int .u64 (brw A B)]) w w' e := by
  have h := Q7f _ _ _ _ _ _ _ _ (J4w A) (J4w B) w
  rw [J18 A hA, J18 B hB] at h; exact h
theorem Y81 (A B : Nat) (hA : A < Q7) (hB : B < Q7) (w : World) : Calls Tryz.prog 139 #[L4 A, L4 B] w fun e w' => K6 (.bool (decide (A < B))) w w' e := by
  have h := Z7l _ _ _ _ _ _ _ _ (J4w A) (J4w B) w
  rw [J18 A hA, J18 B hB] at h; exact h
theorem Y5p : LL < Q7 := by decide +kernel
@[go_sem] def LV : Value := .agg #[.int .u64 6346243789798364141, .int .u64 1503914060200516822, .int .u64 0, .int .u64 1152921504606846976]
theorem Y5q : LV = L4 LL := L4_order.symm
theorem V44 (A : Nat) (hA : A < Q7) (w : World) : Calls Tryz.prog 140 #[L4 A, LV] w fun e w' => K6 (.tuple #[L4 (J6x A LL), .int .u64 (brw A LL)]) w w' e := by rw [Y5q]; exact V1e A LL hA Y5p w
theorem Y5r (A : Nat) (hA : A < Q7) (w : World) : Calls Tryz.prog 139 #[L4 A, LV] w fun e w' => K6 (.bool (decide (A < LL))) w w' e := by rw [Y5q]; exact Y81 A LL hA Y5p w
end

section
set_option maxHeartbeats 2000000

theorem Q7w (ws : Nat → Int) : ∀ n q r, q < n → r < 64 → (∀ j, j < n → V4 (ws j)) → J1u ws n / 2 ^ (64 * q + r) % 2 = (ws q).toNat / 2 ^ r % 2
  | 0, _, _, h, _, _ => by omega
  | n + 1, q, r, h, hr, hw => by
    show (J1u ws n + (ws n).toNat * 2 ^ (64 * n)) / 2 ^ (64 * q + r) % 2 = _
    by_cases hq : q = n
    · subst hq
      have hl := J93 ws q (fun j hj => hw j (by omega))
      rw [Nat.pow_add, ← Nat.div_div_eq_div_mul, Nat.add_mul_div_right _ _ (Nat.two_pow_pos _), Nat.div_eq_of_lt hl, Nat.zero_add]
    · have ih := Q7w ws n q r (by omega) hr (fun j hj => hw j (by omega))
      obtain ⟨d, hd⟩ : ∃ d, 64 * n = (64 * q + r) + (1 + d) := ⟨64 * n - (64 * q + r) - 1, by omega⟩
      rw [hd, Nat.pow_add 2 (64 * q + r), Nat.mul_left_comm, Nat.add_mul_div_left _ _ (Nat.two_pow_pos _), Nat.pow_add 2 1 d, Nat.mul_left_comm, Nat.pow_one, Nat.add_mul_mod_self_left]
      exact ih
theorem Z7n (ws : Nat → Int) (n q r : Nat) (hq : q < n) (hr : r < 64) (hw : ∀ j, j < n → V4 (ws j)) :
    (0 ≤ bits .and .u64 (ws q / 2 ^ r) 1 ∧ bits .and .u64 (ws q / 2 ^ r) 1 ≤ 1) ∧ (bits .and .u64 (ws q / 2 ^ r) 1).toNat = J1u ws n / 2 ^ (64 * q + r) % 2 := by
  have hb := Q7w ws n q r hq hr hw
  obtain ⟨x0, x1⟩ := hw q hq
  obtain ⟨X, hX⟩ := Int.eq_ofNat_of_zero_le x0
  rw [hX] at hb x1 ⊢
  rw [Int.toNat_natCast] at hb
  have e : ((X : Int) / 2 ^ r) = ((X / 2 ^ r : Nat) : Int) := by push_cast; rfl
  have hl : X / 2 ^ r ≤ X := Nat.div_le_self _ _
  have e2 : bits .and .u64 (((X / 2 ^ r : Nat) : Int)) ((1 : Nat) : Int) = ((X / 2 ^ r % 2 : Nat) : Int) := by
    rw [bits_and_u64_nat _ _ (by omega) (by omega), Nat.and_one_is_mod]
  rw [e]
  have e3 : bits .and .u64 (((X / 2 ^ r : Nat) : Int)) 1 = ((X / 2 ^ r % 2 : Nat) : Int) := e2
  rw [e3, hb]
  omega
theorem Z7o (V K : Nat) : (2 * (V / 2 ^ (K + 1) % LL) + V / 2 ^ K % 2) % LL = V / 2 ^ K % LL := by
  have e : V / 2 ^ K = 2 * (V / 2 ^ (K + 1)) + V / 2 ^ K % 2 := by
    rw [Nat.pow_succ, ← Nat.div_div_eq_div_mul]; omega
  have h1 : (2 * (V / 2 ^ (K + 1) % LL) + V / 2 ^ K % 2) % LL = (2 * (V / 2 ^ (K + 1)) + V / 2 ^ K % 2) % LL := by
    rw [Nat.add_mod, Nat.mul_mod, Nat.mod_mod, ← Nat.mul_mod, ← Nat.add_mod]
  rw [h1, ← e]
theorem J3r (x : Nat) : x % LL < 115792089237316195423570985008687907853269984665640564039457584007913129639936 :=
  Nat.lt_trans (Nat.mod_lt _ (by decide)) (by decide)
theorem Q66 (ws : Nat → Int) (b off len cap : Nat) (w : World) (hG : GL w) (hlen : len ≤ 100) (hws : ∀ j, j < len → V4 (ws j))
    (hc : ∀ j, j < len → w.cell? ⟨b, off + j, none⟩ = some (.int .u64 (ws j))) (hb : b < w.heap.size) :
    Calls Tryz.prog 133 #[.slice (some ⟨b, off, none⟩) len cap] w fun e w' => K6 (L4 (J1u ws len % LL)) w w' e := by
  go_enter Tryz.func133, Tryz.ntmps133
  go_wp2
  go_loopw [4] (fun i wr => ∃ k : Nat, k ≤ 64 * len ∧ i = .int .i64 ((k : Int) - 1) ∧ Below w.heap.size w wr ∧
      Blk wr w.heap.size #[.int .u64 0, .int .u64 0, .int .u64 0, .int .u64 0] 153 ∧
      Blk wr (w.heap.size + 1) #[.int .u64 (K3 (J1u ws len / 2 ^ k % LL) 0), .int .u64 (K3 (J1u ws len / 2 ^ k % LL) 1), .int .u64 (K3 (J1u ws len / 2 ^ k % LL) 2), .int .u64 (K3 (J1u ws len / 2 ^ k % LL) 3)] 153)
    (fun i _ => (intOf i + 1).toNat)
  case atStart =>
    refine ⟨64 * len, Nat.le_refl _, ?_, ?_, ?_, ?_⟩
    · congr 1; omega
    · exact bz
    · exact Y8 (V2 _ _ rfl) _
    rw [Nat.div_eq_of_lt (J93 ws len hws)]
    exact V2 _ _ (by simp)
  case round =>
    obtain ⟨k, hk, rfl, J, M, D⟩ := hrel
    by_cases R : k = 0
    · subst R
      have U := Q0 D
      have T := V5 D
      have ε := Q0 M
      have Z := V5 M
      go_wp2
      refine bodyPost_ret (v := L4 (J1u ws len % LL)) (by simp only [results, Tryz.results133]; go_simp) rfl ⟨rfl, ?_⟩
      exact bz
    obtain ⟨q, r, hr, rfl⟩ : ∃ q r, r < 64 ∧ k = 64 * q + r + 1 := ⟨(k - 1) / 64, (k - 1) % 64, by omega, by omega⟩
    have e1 : ((64 * q + r + 1 : Nat) : Int) - 1 = 64 * (q : Int) + (r : Int) := by omega
    rw [e1]
    clear R e1
    have N := (J.cell (p := ⟨b, off + q, none⟩) hb).trans (hc q (by omega))
    have w1 : IntKind.i64.wrap ((64 * (q : Int) + (r : Int)).tdiv 64) = (q : Int) := by rw [Int.tdiv_eq_ediv_of_nonneg (by omega), IntWalk.i64_in _ (by omega)]; omega
    have w2 : (64 * (q : Int) + (r : Int)).tmod 64 = (r : Int) := by rw [Int.tmod_eq_emod_of_nonneg (by omega)]; omega
    have γ : 0 ≤ (r : Int) := by omega
    have X : (0 : Int) ≤ 64 * (q : Int) + (r : Int) := by omega
    have β : (q : Int) < (len : Int) := by omega
    have Y : (r : Int) < 64 := by omega
    have U := Q0 D
    have T := V5 D
    go_wp2
    go_still_tail 10, (by kernel_rfl)
    change wpList _ _ _ _ _ wr.drew
    obtain ⟨hB, S⟩ := Z7n ws len q r (by omega) hr hws
    generalize bits .and .u64 (ws q / 2 ^ r) 1 = bt at *
    have HB := Lib.hid S
    clear S N w1 w2
    have HT := Y24 _ _ _ _ bt (J4w (J1u ws len / 2 ^ (64 * q + r + 1) % LL)) hB.1 hB.2 (by rw [J18 _ (J3r _)]; exact Nat.mod_lt _ (by decide)) wr.drew (J3s (hG) J.drew (by have := hG.2.2.2.2; omega))
    go_wp2_with (go_at_call 164; refine HT.mono ?_; rintro e w3 ⟨rfl, G⟩; have δ := Q0 (J1 (Y9 D) G); have α := V5 (J1 (Y9 D) G))
    rw [J18 _ (J3r _), HB.out, Z7o]
    have V.size := J.size
    have ζ := G.size
    go_roundw
    case rel =>
      refine ⟨64 * q + r, by omega, by go_num, ?_, J3z (J1 (Y9 M) G) (by omega) _ _ _ _, J92 (J1 (Y9 D) G) _ _ _ _⟩
      exact bz
    case measure => simp [intOf]; omega
end

section
set_option maxHeartbeats 2000000

theorem bytes_c (V : Nat) (hV : V < 115792089237316195423570985008687907853269984665640564039457584007913129639936) (w : World) (hG : GL w) :
    Calls Tryz.prog 91 #[L4 V] w fun e w' => K6 (.agg (J0 .u8 32 (Q3 (V % LL)))) w w' e := by
  go_enter Tryz.func91, Tryz.ntmps91
  go_wp2_with fail
  refine (Q66 (K3 V) _ _ _ _ _ ?_ (by omega) (fun j _ => J0q V j) ?_ (by simp only [World.size_alloc]; omega)).mono ?_
  · exact J3s hG (B := w.heap.size) (((Below.refl _ _).alloc (Nat.le_refl _) _).alloc (by simp) _) hG.2.2.2.2
  · intro j hj
    have h4 : j = 0 ∨ j = 1 ∨ j = 2 ∨ j = 3 := by omega
    refine (Q0 (Y8 (V2 #[.int .u64 (K3 V 0), .int .u64 (K3 V 1), .int .u64 (K3 V 2), .int .u64 (K3 V 3)] 153 rfl) _) _).trans ?_
    rcases h4 with rfl | rfl | rfl | rfl <;> rfl
  rintro e w1 ⟨rfl, J⟩
  have b0 : Blk w1 w.heap.size #[.int .u64 (K3 V 0), .int .u64 (K3 V 1), .int .u64 (K3 V 2), .int .u64 (K3 V 3)] 153 := J1 (Y8 (V2 _ _ rfl) _) J
  have b1 : Blk w1 (w.heap.size + 1) (J0 .u8 32 fun _ => 0) 23 := J1 (V2 _ _ (by simp)) J
  have s1 := J.size
  simp only [World.size_alloc] at s1
  rw [Q3w V hV]
  generalize hN : V % LL = N
  have HN := Lib.hid hN
  clear hN
  have c0 := Q0 b0
  have f0 := V5 b0
  go_wp2
  go_loopw [7] (fun i wr => ∃ k : Nat, k ≤ 32 ∧ i = .int .i64 k ∧ Below w.heap.size w wr ∧
      Blk wr w.heap.size #[.int .u64 (K3 N 0), .int .u64 (K3 N 1), .int .u64 (K3 N 2), .int .u64 (K3 N 3)] 153 ∧
      Blk wr (w.heap.size + 1) (J0 .u8 32 fun _ => 0) 23 ∧
      Blk wr w1.heap.size (J0 .u8 32 fun j => if j < k then Q3 N j else 0) 23)
    (fun i _ => (32 - intOf i).toNat)
  case atStart =>
    refine ⟨0, by omega, rfl, ?_, Y8 (J92 b0 _ _ _ _) _, Y8 (J3z b1 (by omega) _ _ _ _) _, ?_⟩
    · exact bz
    exact V2 _ _ (by simp)
  case round =>
    obtain ⟨k, hk, rfl, G, S, M, D⟩ := hrel
    by_cases T : k = 32
    · subst T
      go_wp2_with (first | (refine wpList_load_row rfl 23 (.tmp 3) rfl w1.heap.size rfl _ _ _ _ D Tryz.underlying23 rfl (by kernel_rfl) ?_) | (refine wpList_store_row rfl 23 (.tmp 2) (.tmp 22) rfl (w.heap.size + 1) _ rfl rfl 23 _ M (by kernel_rfl) (by kernel_rfl) (Z0 _ _ _) ?_))
      refine bodyPost_ret (results_cell_row rfl _ _ (w.heap.size + 1) _ _ _ _ rfl (Y6 M _) Tryz.underlying23 rfl (by kernel_rfl)) rfl ⟨?_, Z6 G (by omega) _⟩
      rw [K8 _ _ _ (Q3 N) (fun i hi => if_pos hi), HN.out]
    obtain ⟨q, r, hr, rfl⟩ : ∃ q r, r < 8 ∧ k = 8 * q + r := ⟨k / 8, k % 8, by omega, by omega⟩
    have d1 : (8 * (q : Int) + (r : Int)) / 8 = (q : Int) := by omega
    have d2 : (8 * (q : Int) + (r : Int)) % 8 = (r : Int) := by omega
    have Z : (q : Int) < 4 := by omega
    have X : (r : Int) < 8 := by omega
    have c0 := (Q0 S q).trans (show _ = some (.int .u64 (K3 N q)) by (have : q = 0 ∨ q = 1 ∨ q = 2 ∨ q = 3 := by omega); rcases this with rfl | rfl | rfl | rfl <;> rfl)
    have c3 := Q0 D (8 * q + r)
    rw [J4 _ _ _ _ (by omega)] at c3
    have f3 := V5 D
    go_wp2
    have U.size := G.size
    have Y := J6 D
    go_roundw
    case rel =>
      refine ⟨8 * q + r + 1, by omega, by go_num, ?_, J8 S (by omega) _ _, J8 M (by omega) _ _, ?_⟩
      · exact bz
      have hs := Y5 D (8 * q + r) (.int .u8 (K3 N q / 2 ^ (8 * r) % 256))
      rw [V6] at hs
      rw [K8 _ _ _ _ (fun j hj => ?_)]
      · exact hs
      have R := Z0h N (8 * q + r)
      rw [show (8 * q + r) / 8 = q by omega, show (8 * q + r) % 8 = r by omega] at R
      unfold upd
      rw [R]
      dsimp only
      by_cases h1 : j = 8 * q + r
      · subst h1; rw [if_pos (by omega), if_pos rfl]
      rw [if_neg h1]
      by_cases h2 : j < 8 * q + r
      · rw [if_pos h2, if_pos (by omega)]
      rw [if_neg h2, if_neg (by omega)]
    case measure => simp [intOf]; omega
end

section
set_option maxHeartbeats 2000000

theorem Z1s (V b : Nat) (hV : V < Q7) (w : World) (hG : GL w) (hB : Blk w b (c4 V) 153) :
    Calls Tryz.prog 133 #[.slice (some ⟨b, 0, none⟩) 4 4] w fun e w' => K6 (L4 (V % LL)) w w' e := by
  have h := Q66 (K3 V) b 0 4 4 w hG (by omega) (fun j _ => J0q V j) (fun j hj => by
    have h4 : j = 0 ∨ j = 1 ∨ j = 2 ∨ j = 3 := by omega
    refine (Q0 hB _).trans ?_
    rcases h4 with rfl | rfl | rfl | rfl <;> rfl) (J6 hB)
  rw [Q3w V hV] at h
  exact h
theorem Y25 {w w' : World} (h : GL w) (hb : Below w.heap.size w w') : GL w' := J3s h hb h.2.2.2.2
theorem add_c (A B : Nat) (hA : A < Q7) (hB : B < Q7) (w : World) (hG : GL w) :
    Calls Tryz.prog 93 #[L4 A, L4 B] w fun e w' => K6 (L4 ((A + B) % LL)) w w' e := by
  have HG := Lib.hid hG
  clear hG
  go_enter Tryz.func93, Tryz.ntmps93
  go_wp2
  refine Q6r (fun W => Below w.heap.size w W ∧ w.heap.size + 2 < W.heap.size ∧ Blk W w.heap.size (c4 A) 153 ∧ Blk W (w.heap.size + 1) (c4 B) 153 ∧ Blk W (w.heap.size + 2) #[.int .u64 0, .int .u64 0, .int .u64 0, .int .u64 0] 153)
    ⟨bz, by simp, Y8 (Y8 (V2 _ _ rfl) _) _, Y8 (V2 _ _ (by simp)) _, V2 _ _ (by simp)⟩ ?_
  rintro W ⟨M, μ, b2, b3, b4⟩
  have Z : Hid (GL W.drew) := Lib.hid (J3s HG.out M.drew HG.out.2.2.2.2)
  have b2 := Y9 b2
  have b3 := Y9 b3
  go_region_with (first
    | (go_at_call 133; (with_reducible refine (Z1s A w.heap.size hA _ Z.out b2).mono ?_); rintro e w1 ⟨rfl, N⟩; have V := J1 b2 N; have T := J1 b3 N)
    | (go_at_call 133; (with_reducible refine (Z1s B (w.heap.size + 1) hB _ (Y25 Z.out N) T).mono ?_); rintro e w2 ⟨rfl, D⟩; have σ := Q0 (J1 V D); have φ := V5 (J1 V D); have ω := Q0 (J1 T D); have ψ := V5 (J1 T D)))
  clear σ φ ω ψ
  have κ := J1 V D
  have ε := J1 T D
  have η := J1 (J1 (Y9 b4) N) D
  have s1 := N.size
  have s2 := D.size
  simp only [World.size_drew] at s1
  have ρ : Below w.heap.size w w2 := Q9 (Q9 M.drew N (by simp only [World.size_drew]; omega)) D (by omega)
  have γ : w.heap.size + 2 < w2.heap.size := by omega
  clear N D V T b2 b3 b4 Z s1 s2
  refine J60 (fun W => Below w.heap.size w W ∧ w.heap.size + 2 < W.heap.size ∧ Blk W w.heap.size (c4 (A % LL)) 153 ∧ Blk W (w.heap.size + 1) (c4 (B % LL)) 153 ∧ Blk W (w.heap.size + 2) #[.int .u64 0, .int .u64 0, .int .u64 0, .int .u64 0] 153)
    ⟨bz, by simpa using γ, J3z (J92 κ _ _ _ _) (by omega) _ _ _ _, J92 (J3z ε (by omega) _ _ _ _) _ _ _ _, J3z (J3z η (by omega) _ _ _ _) (by omega) _ _ _ _⟩ ?_
  clear ρ κ ε η M μ γ
  rintro X ⟨M, μ, b2, b3, b4⟩
  have ξ := Lib.hid (J3s HG.out M HG.out.2.2.2.2)
  have J := J4w (A % LL)
  have G := J4w (B % LL)
  have β := Q3v _ _ _ _ _ _ _ _ 0 J G (by omega) (by omega)
  have q0 := J8f _ _ 0 J.1 G.1 (by omega) (by omega)
  have q1 := J8f _ _ _ J.2.1 G.2.1 q0.1 q0.2
  have q2 := J8f _ _ _ J.2.2.1 G.2.2.1 q1.1 q1.2
  have h0 := J13 _ _ 0 J.1 G.1 (by omega) (by omega)
  have h1 := J13 _ _ _ J.2.1 G.2.1 q0.1 q0.2
  have h2 := J13 _ _ _ J.2.2.1 G.2.2.1 q1.1 q1.2
  have h3 := J13 _ _ _ J.2.2.2 G.2.2.2 q2.1 q2.2
  obtain ⟨e0, e1, e2, e3⟩ := Y6c β.1
  rw [e0] at h0
  rw [e1] at h1
  rw [e2] at h2
  rw [e3] at h3
  clear β q0 q1 q2 J G e0 e1 e2 e3
  have hS : (A % LL + B % LL + (0 : Int).toNat) % 115792089237316195423570985008687907853269984665640564039457584007913129639936 = A % LL + B % LL := by
    have := Nat.mod_lt A (show 0 < LL by decide)
    have := Nat.mod_lt B (show 0 < LL by decide)
    unfold LL at *
    omega
  rw [J18 _ (J3r A), J18 _ (J3r B), hS] at h0 h1 h2 h3
  have ζ : A % LL + B % LL < 2 * LL := by
    have := Nat.mod_lt A (show 0 < LL by decide)
    have := Nat.mod_lt B (show 0 < LL by decide)
    omega
  have δ : (A % LL + B % LL) % LL = (A + B) % LL := by rw [← Nat.add_mod]
  generalize A % LL + B % LL = S at *
  have HS := Lib.hid ζ
  have ν := Lib.hid δ
  clear hS ζ δ
  have x2 := Q0 b2
  have x3 := Q0 b3
  obtain ⟨g0, g1, g2, g3, g4⟩ := ξ.out
  have n1 : w.heap.size < X.heap.size := by omega
  have n2 : w.heap.size + 1 < X.heap.size := by omega
  go_wp2
  refine wp_loop_rounds 5 ?_
  rw [rounds_succ]
  go_wp2
  go_region
  go_wp2
  rw [rounds_succ]
  go_wp2
  go_region
  go_wp2
  rw [rounds_succ]
  go_wp2
  go_region
  go_wp2
  rw [rounds_succ]
  go_wp2
  go_region
  go_wp2
  rw [rounds_succ]
  go_wp2_with fail
  have θ : S < Q7 := by have := HS.out; unfold LL at this; unfold Q7; omega
  refine (Y5r S θ _).mono ?_
  rintro e w3 ⟨rfl, U⟩
  have Y := J1 (Y9 (Y9 (Y9 (Y9 (Y8 b4 _))))) U
  have τ : Blk w3 X.heap.size (c4 S) 153 := J1 (Y9 (Y9 (Y9 (Y9 (V2 _ _ rfl))))) U
  have s3 := U.size
  simp only [World.size_drew, World.size_alloc] at s3
  have χ : Below w.heap.size w w3 := Q9 bz U (by simp only [World.size_drew, World.size_alloc]; omega)
  have Γ := Lib.hid (J3s HG.out χ HG.out.2.2.2.2)
  clear b2 b3 b4 M x2 x3 h0 h1 h2 h3 U g0 g1 g2 g3 g4 ξ
  have z2 := Q0 Y
  have t2 := V5 Y
  have z5 := Q0 τ
  obtain ⟨g0, g1, g2, g3, g4⟩ := Γ.out
  by_cases R : S < LL
  · rw [show decide (S < LL) = true from decide_eq_true R]
    have HL := Lib.hid R
    clear R
    go_wp2
    refine bodyPost_ret (v := L4 S) (by simp only [results, Tryz.results93]; go_simp) rfl ⟨?_, ?_⟩
    · rw [← ν.out, Nat.mod_eq_of_lt HL.out]
    exact bz
  rw [show decide (S < LL) = false from decide_eq_false R]
  have HL := Lib.hid R
  clear R
  go_wp2_with (go_at_call 140; refine (V44 S θ _).mono ?_; rintro e w4 ⟨rfl, α⟩; have Δ := Q0 (J1 Y α); have Θ := V5 (J1 Y α); have s4 := α.size; have n4 : w.heap.size + 2 < w4.heap.size := by omega)
  refine bodyPost_ret (v := L4 (J6x S LL)) (by simp only [results, Tryz.results93]; go_simp) rfl ⟨?_, ?_⟩
  · rw [← ν.out, Z7m _ HS.out HL.out]
  exact bz
end
end Go.Proofs.YtejkmhgkkibafaaGreatDoor.S8.Sc

namespace Go.Proofs.YtejkmhgkkibafaaGreatDoor.S8

abbrev Q4 := Nat × Nat × Nat × Nat
def RQ4 (s : Q4) (a : Pr) : Prop := RN s.1 s.2.1 s.2.2.1 s.2.2.2 a
def twN : Q4 → Q4
  | (X, Y, Z, _) =>
    let A := X * X % PP
    let B := Y * Y % PP
    let C := (Z * Z % PP + Z * Z % PP) % PP
    let H := (A + B) % PP
    let S := (X + Y) % PP
    let E := (H + (PP - S * S % PP % PP)) % PP
    let G := (A + (PP - B % PP)) % PP
    let F := (C + G) % PP
    (E * F % PP, G * H % PP, F * G % PP, E * H % PP)
def adN : Q4 → Q4 → Q4
  | (X1, Y1, Z1, T1), (X2, Y2, Z2, T2) =>
    let A := (Y1 + (PP - X1 % PP)) % PP * ((Y2 + (PP - X2 % PP)) % PP) % PP
    let B := (Y1 + X1) % PP * ((Y2 + X2) % PP) % PP
    let C := T1 * D2 % PP * T2 % PP
    let D := (Z1 + Z1) % PP * Z2 % PP
    let E := (B + (PP - A % PP)) % PP
    let F := (D + (PP - C % PP)) % PP
    let G := (D + C) % PP
    let H := (B + A) % PP
    (E * F % PP, G * H % PP, F * G % PP, E * H % PP)
def tmN (P : Q4) (n : Nat) : Nat → Q4
  | 0 => (0, 1, 1, 0)
  | c + 1 => if n / 2 ^ (255 - c) % 2 = 1 then adN (twN (tmN P n c)) P else twN (tmN P n c)
theorem V1f {s : Q4} {a : Pr} (h : RQ4 s a) : RQ4 (twN s) (J12 a a) := by
  obtain ⟨X, Y, Z, T⟩ := s
  exact Q7j (X := X) (Y := Y) (Z := Z) (T := T) h rfl rfl rfl rfl rfl rfl rfl rfl rfl rfl rfl rfl rfl rfl
theorem V1g {s t : Q4} {a b : Pr} (h : RQ4 s a) (k : RQ4 t b) : RQ4 (adN s t) (J12 a b) := by
  obtain ⟨X1, Y1, Z1, T1⟩ := s
  obtain ⟨X2, Y2, Z2, T2⟩ := t
  exact Z6y (X1 := X1) (Y1 := Y1) (Z1 := Z1) (T1 := T1) (X2 := X2) (Y2 := Y2) (Z2 := Z2) (T2 := T2) h k rfl rfl rfl rfl rfl rfl rfl rfl rfl rfl rfl rfl rfl rfl rfl rfl rfl rfl
theorem Y5t {P : Q4} {a : Pr} {n : Nat} (hP : RQ4 P a) (hn : n < 2 ^ 256) : ∀ c, c ≤ 256 → RQ4 (tmN P n c) (pm a (n / 2 ^ (256 - c)))
  | 0, _ => by
    rw [show 256 - 0 = 256 by decide, Nat.div_eq_of_lt hn]
    exact rn_p0
  | c + 1, h => by
    have ih := Y5t hP hn c (by omega)
    rw [show 256 - c = (255 - c) + 1 by omega] at ih
    rw [show 256 - (c + 1) = 255 - c by omega]
    have e2 : n / 2 ^ (255 - c + 1) = n / 2 ^ (255 - c) / 2 := by rw [Nat.pow_succ, Nat.div_div_eq_div_mul]
    rw [e2] at ih
    unfold tmN
    generalize n / 2 ^ (255 - c) = m at *
    have hm := Nat.div_add_mod m 2
    have D := V1f ih
    rw [← Q2u hP.on] at D
    split
    · rename_i h1
      have := V1g D hP
      rwa [show J12 (pm a (2 * (m / 2))) a = pm a m by rw [show m = 2 * (m / 2) + 1 by omega]; exact congrArg (fun k => J12 (pm a (2 * k)) a) (by omega)] at this
    · rwa [show 2 * (m / 2) = m by omega] at D
theorem Y82 {P : Q4} {a : Pr} {n : Nat} (hP : RQ4 P a) (hn : n < 2 ^ 256) : RQ4 (tmN P n 256) (pm a n) := by
  have := Y5t hP hn 256 (Nat.le_refl _)
  rwa [Nat.sub_self, Nat.pow_zero, Nat.div_one] at this
theorem Y28 {s : Q4} {a : Pr} (h : RQ4 s a) (h1 : s.1 = 0) (h2 : s.2.1 = s.2.2.1) : a = p0 := by
  obtain ⟨hz, hx, hy, _⟩ := h.rc
  rw [h1, Q5y] at hx
  rw [h2] at hy
  have e1 : a.1 = 0 := (J44 hx.symm).resolve_right hz
  have e2 : a.2 = 1 := by
    have := J0r hz
    have e : (a.2 - 1) * fp s.2.2.1 = 0 := by grind
    have := (J44 e).resolve_right hz
    grind
  exact Prod.ext e1 e2
open Sc (LL)
def BQ : Q4 := (BX, BY, 1, BX * BY % PP)
theorem Y29 : RQ4 BQ BP := Z6s (by decide) (by decide) J9l rfl
theorem order_x : (tmN BQ LL 256).1 = 0 ∧ (tmN BQ LL 256).2.1 = (tmN BQ LL 256).2.2.1 := by decide +kernel
theorem V1h : pm BP LL = p0 := Y28 (Y82 Y29 (by decide)) order_x.1 order_x.2
theorem Q9l (n : Nat) : pm BP (n % LL) = pm BP n := by
  have h := Nat.div_add_mod n LL
  have e : pm BP n = J12 (pm BP (LL * (n / LL))) (pm BP (n % LL)) := by rw [← Q2z J9l, h]
  rw [e, Q9i J9l, V1h, Y5k, Q61]
end Go.Proofs.YtejkmhgkkibafaaGreatDoor.S8

namespace Go.Proofs.YtejkmhgkkibafaaGreatDoor.S8.Sc
section
set_option maxHeartbeats 4000000

theorem Z18 (A B : Nat) (hA : A < Q7) (hB : B < Q7) (h : ∀ i, i < 4 → K3 A i = K3 B i) : A = B := by
  rw [← J18 A hA, ← J18 B hB, h 0 (by omega), h 1 (by omega), h 2 (by omega), h 3 (by omega)]
end

section
set_option maxHeartbeats 4000000

theorem Y26 (f : Nat → Int) (b : Nat) (hf : ∀ j, j < 8 → V4 (f j)) (w : World) (hG : GL w) (hB : Blk w b (J0 .u64 8 f) 186) :
    Calls Tryz.prog 133 #[.slice (some ⟨b, 0, none⟩) 8 8] w fun e w' => K6 (L4 (J1u f 8 % LL)) w w' e :=
  Q66 f b 0 8 8 w hG (by omega) hf (fun j hj => by rw [Nat.zero_add]; exact (Q0 hB _).trans (J4 _ _ _ _ hj)) (J6 hB)

theorem J3b (V i : Nat) (h : i < 4) : (c4 V)[i]? = some (.int .u64 (K3 V i)) := by
  have : i = 0 ∨ i = 1 ∨ i = 2 ∨ i = 3 := by omega
  rcases this with rfl | rfl | rfl | rfl <;> rfl

theorem Q5j (i k : Nat) (x y g c s cv : Int) (V V' Y Y' X B0 : Nat) (hx : V4 x) (hy : V4 y) (hg : V4 g) (hc : V4 c) (hs : V4 s) (hcv : V4 cv)
    (h5 : s + 18446744073709551616 * cv = x * y + g + c) (h1 : V' + g.toNat * 2 ^ (64 * (i + k)) = V + s.toNat * 2 ^ (64 * (i + k)))
    (h2 : V + c.toNat * 2 ^ (64 * (i + k)) = X + x.toNat * 2 ^ (64 * i) * Y) (hY : Y' = Y + y.toNat * 2 ^ (64 * k)) :
    V' + cv.toNat * 2 ^ (64 * (i + (k + 1))) = X + x.toNat * 2 ^ (64 * i) * Y' := by
  obtain ⟨x, rfl⟩ := Int.eq_ofNat_of_zero_le hx.1
  obtain ⟨y, rfl⟩ := Int.eq_ofNat_of_zero_le hy.1
  obtain ⟨g, rfl⟩ := Int.eq_ofNat_of_zero_le hg.1
  obtain ⟨c, rfl⟩ := Int.eq_ofNat_of_zero_le hc.1
  obtain ⟨s, rfl⟩ := Int.eq_ofNat_of_zero_le hs.1
  obtain ⟨d, rfl⟩ := Int.eq_ofNat_of_zero_le hcv.1
  simp only [Int.toNat_natCast] at *
  have h6 : s + 18446744073709551616 * d = x * y + g + c := by
    rw [← Int.natCast_mul] at h5
    generalize x * y = p at *
    omega
  have e1 : (2 : Nat) ^ (64 * (i + (k + 1))) = 18446744073709551616 * 2 ^ (64 * (i + k)) := by
    rw [show 64 * (i + (k + 1)) = 64 + 64 * (i + k) by omega, Nat.pow_add]
  have e2 : (2 : Nat) ^ (64 * (i + k)) = 2 ^ (64 * i) * 2 ^ (64 * k) := by rw [Nat.mul_add, Nat.pow_add]
  rw [hY, e1, Nat.mul_add (x * 2 ^ (64 * i))]
  have e3 : x * 2 ^ (64 * i) * (y * 2 ^ (64 * k)) = x * y * 2 ^ (64 * (i + k)) := by rw [e2, Nat.mul_mul_mul_comm]
  rw [e3]
  generalize 2 ^ (64 * (i + k)) = W at *
  have e4 : d * (18446744073709551616 * W) = 18446744073709551616 * d * W := by rw [Nat.mul_left_comm, Nat.mul_assoc]
  rw [e4]
  have h7 : s * W + 18446744073709551616 * d * W = x * y * W + g * W + c * W := by
    rw [← Nat.add_mul, h6, Nat.add_mul, Nat.add_mul]
  omega

theorem Q5k (B V' V C X Y W : Nat) {g : Int} (hB : B < Q7) (hg : g = 0) (h1 : V' + g.toNat * W = V + C) (h2 : V + C = X + Y * (B % 2 ^ (64 * 4))) : V' = X + Y * B := by
  rw [Nat.mod_eq_of_lt (show B < 2 ^ (64 * 4) from hB)] at h2
  rw [hg, Int.toNat_zero, Nat.zero_mul, Nat.add_zero] at h1
  rw [h1, h2]

theorem mul_c (A B : Nat) (hA : A < Q7) (hB : B < Q7) (w : World) (hG : GL w) :
    Calls Tryz.prog 94 #[L4 A, L4 B] w fun e w' => K6 (L4 (A * B % LL)) w w' e := by
  have HG := Lib.hid hG
  clear hG
  go_enter Tryz.func94, Tryz.ntmps94
  go_wp2
  go_loopw [16] (fun ii wr => ∃ i : Nat, i ≤ 4 ∧ ii = .int .i64 i ∧ Below w.heap.size w wr ∧
      Blk wr (w.heap.size + 1) (c4 B) 153 ∧ Blk wr (w.heap.size + 2) #[.int .u64 0, .int .u64 0, .int .u64 0, .int .u64 0] 153 ∧
      ∃ f : Nat → Int, Blk wr (w.heap.size + 3) (J0 .u64 8 f) 186 ∧ (∀ j, V4 (f j)) ∧ (∀ j, i + 4 ≤ j → f j = 0) ∧ J1u f 8 = A % 2 ^ (64 * i) * B)
    (fun ii _ => (4 - intOf ii).toNat)
  case atStart =>
    refine ⟨0, by omega, rfl, ?_, Y8 (Y8 (V2 _ _ (by simp)) _) _, Y8 (V2 _ _ (by simp)) _, fun _ => 0, V2 _ _ (by simp), fun _ => ⟨by simp, by simp⟩, fun _ _ => rfl, ?_⟩
    · exact bz
    rw [J7y, Nat.mul_zero, Nat.pow_zero, Nat.mod_one, Nat.zero_mul]
  case round =>
    obtain ⟨i, hi, rfl, D, b1, b2, f, b3, hf, S, hv⟩ := hrel
    by_cases N : i = 4
    · subst N
      have HV := Lib.hid hv
      clear hv
      have c2 := Q0 b2
      have f2 := V5 b2
      go_wp2_with (go_at_call 133; refine (Y26 f (w.heap.size + 3) (fun j _ => hf j) _ (J3s HG.out D HG.out.2.2.2.2) b3).mono ?_; rintro e w1 ⟨rfl, J⟩; have α := Q0 (J1 b2 J); have β := V5 (J1 b2 J))
      refine bodyPost_ret (v := L4 (J1u f 8 % LL)) (by simp only [results, Tryz.results94]; go_simp) rfl ⟨?_, ?_⟩
      · rw [HV.out, Nat.mod_eq_of_lt (show A < 2 ^ (64 * 4) from hA)]
      have := J.size
      have := D.size
      exact bz
    have U : i < 4 := by omega
    have hi3' : (i : Int) < 4 := by omega
    have G : ∀ W, (Instr.index 153 (.agg #[.int .u64 (K3 A 0), .int .u64 (K3 A 1), .int .u64 (K3 A 2), .int .u64 (K3 A 3)]) (.int .i64 (i : Int))).run Tryz.prog W = .ok (.int .u64 (K3 A i)) W :=
      fun W => J1b W 153 71 4 .u64 .i64 (c4 A) i (K3 A i) Tryz.underlying153 Tryz.underlying71 (by kernel_rfl) U (J3b A i U)
    have c1 := Q0 b1
    clear N
    go_wp2
    clear c1
    have T := Lib.hid S
    have HV := Lib.hid hv
    clear S hv G hi3'
    obtain ⟨wo, rfl⟩ : ∃ wo : World, wo = wr := ⟨_, rfl⟩
    go_loopw [8, 21] (fun cc kk wq => ∃ (k : Nat) (c : Int), k ≤ 4 ∧ kk = .int .i64 k ∧ cc = .int .u64 c ∧ V4 c ∧ Below w.heap.size w wq ∧
        Blk wq (w.heap.size + 1) (c4 B) 153 ∧ Blk wq (w.heap.size + 2) #[.int .u64 0, .int .u64 0, .int .u64 0, .int .u64 0] 153 ∧
        ∃ g : Nat → Int, Blk wq (w.heap.size + 3) (J0 .u64 8 g) 186 ∧ (∀ j, V4 (g j)) ∧ (∀ j, i + 4 ≤ j → g j = 0) ∧
          J1u g 8 + c.toNat * 2 ^ (64 * (i + k)) = A % 2 ^ (64 * i) * B + (K3 A i).toNat * 2 ^ (64 * i) * (B % 2 ^ (64 * k)))
      (fun _ kk _ => (4 - intOf kk).toNat)
    case atStart =>
      refine ⟨0, 0, by omega, rfl, rfl, ⟨by omega, by omega⟩, D, b1, b2, f, b3, hf, T.out, ?_⟩
      rw [HV.out, Nat.mul_zero, Nat.pow_zero, Nat.mod_one]; simp
    case round =>
      obtain ⟨k, c, hk, rfl, rfl, hc, D, b1, b2, g, b3, hg, Y, hv⟩ := hrel
      have M := Lib.hid Y
      have HV := Lib.hid hv
      clear Y hv T
      by_cases X : k = 4
      · subst X
        have c3 := (Q0 b3 (i + 4)).trans (J4 _ _ _ _ (by omega))
        have f3 := V5 b3
        have Z : (i : Int) + 4 < 8 := by omega
        go_wp2
        have hs := Y5 b3 (i + 4) (.int .u64 c)
        rw [V6] at hs
        go_roundw
        case rel =>
          refine ⟨i + 1, by omega, by go_num, ?_, J8 b1 (by omega) _ _, J8 b2 (by omega) _ _, upd g (i + 4) c, hs, ?_, ?_, ?_⟩
          · exact bz
          · intro j
            by_cases hj : j = i + 4
            · subst hj; rw [J1z]; exact hc
            rw [J0i _ _ _ _ hj]; exact hg j
          · intro j hj
            rw [J0i _ _ _ _ (by omega)]
            exact M.out j (by omega)
          rw [J62, Nat.add_mul]
          exact Q5k B _ _ _ _ _ _ hB (M.out (i + 4) (by omega)) (J61 g (i + 4) c 8 (by omega)) HV.out
        case measure => simp [intOf]; omega
      have R : k < 4 := by omega
      have hk3' : (k : Int) < 4 := by omega
      clear X
      have G : ∀ W, (Instr.index 153 (.agg #[.int .u64 (K3 B 0), .int .u64 (K3 B 1), .int .u64 (K3 B 2), .int .u64 (K3 B 3)]) (.int .i64 (k : Int))).run Tryz.prog W = .ok (.int .u64 (K3 B k)) W :=
        fun W => J1b W 153 71 4 .u64 .i64 (c4 B) k (K3 B k) Tryz.underlying153 Tryz.underlying71 (by kernel_rfl) R (J3b B k R)
      obtain ⟨m1, m2, m3, m4, m5⟩ := Q1q (K3 A i) (K3 B k) (g (i + k)) c (J0q A i) (J0q B k) (hg _) hc
      have a1 := J13 (J5q (K3 A i) (K3 B k)) (g (i + k)) 0 m1 (hg _) (by omega) (by omega)
      have a2 := J13 (adS (J5q (K3 A i) (K3 B k)) (g (i + k)) 0) c 0 m2 hc (by omega) (by omega)
      obtain ⟨sv, V⟩ : ∃ sv, sv = adS (adS (J5q (K3 A i) (K3 B k)) (g (i + k)) 0) c 0 := ⟨_, rfl⟩
      rw [← V] at m4 m5 a2
      have M5 := Lib.hid m5
      clear m5 V
      have c3 := (Q0 b3 (i + k)).trans (J4 _ _ _ _ (by omega))
      have f3 := V5 b3
      have Z : (i : Int) + (k : Int) < 8 := by omega
      go_wp2_with (go_at_call 141; refine (Q4p _ _ (J0q A i) (J0q B k) _).mono ?_; rintro e w' ⟨rfl, rfl⟩)
      have hs := Y5 b3 (i + k) (.int .u64 sv)
      rw [V6] at hs
      have h1 := J61 g (i + k) sv 8 (by omega)
      have h2 := HV.out
      have h5 := M5.out
      clear HV M5 a1 a2 c3 f3 G
      go_roundw
      case rel =>
        (repeat apply Exists.intro)
        refine ⟨?_, rfl⟩
        refine ⟨k + 1, _, by omega, by go_num, rfl, m3, ?_, J8 b1 (by omega) _ _, J8 b2 (by omega) _ _, upd g (i + k) sv, hs, ?_, ?_, ?_⟩
        · exact bz
        · intro j
          by_cases hj : j = i + k
          · subst hj; rw [J1z]; exact m4
          rw [J0i _ _ _ _ hj]; exact hg j
        · intro j hj
          rw [J0i _ _ _ _ (by omega)]
          exact M.out j hj
        exact Q5j i k (K3 A i) (K3 B k) (g (i + k)) c sv _ _ _ _ _ _ 0 (J0q A i) (J0q B k) (hg _) hc m4 m3 h5 h1 h2 (J62 B k)
      case measure => simp [intOf]; omega
end
end Go.Proofs.YtejkmhgkkibafaaGreatDoor.S8.Sc
