/- Contracts and plain laws that superChecks_holds rests on. Conditions: the variables' cells hold the numbers of the program's text. -/
import Derived.Test.YtejkmhgkkibafaaGreatDoorJ6
import Derived.Test.YtejkmhgkkibafaaGreatDoorJ3
import Derived.Test.YtejkmhgkkibafaaGreatDoorJ8
import Derived.Test.YtejkmhgkkibafaaGreatDoorGa
import Derived.Deep.QuietTactic
import Derived.BigQuiet
import Derived.BigRegion
import Derived.Lib.Hide
import Derived.Deep.RegionHeld3
import Derived.Deep.RegionWith
import Derived.StillTailTactics
import Derived.Test.YtejkmhgkkibafaaGreatDoorS8Ei
open Go.RowKit
set_option maxRecDepth 100000
set_option linter.unusedSimpArgs false
set_option linter.unusedVariables false
namespace Go.Proofs.YtejkmhgkkibafaaGreatDoor.S8.Sc
section
set_option maxHeartbeats 2000000

def LL : Nat := 7237005577332262213973186563042994240857116359379907606001950938285454250989
def GL (w : World) : Prop := w.cell? ⟨7, 0, none⟩ = some (.int .u64 6346243789798364141) ∧ w.cell? ⟨7, 1, none⟩ = some (.int .u64 1503914060200516822) ∧ w.cell? ⟨7, 2, none⟩ = some (.int .u64 0) ∧ w.cell? ⟨7, 3, none⟩ = some (.int .u64 1152921504606846976) ∧ 7 < w.heap.size
theorem J3i {B : Nat} {w w' : World} (h : GL w) (hb : Below B w w') (hB : 7 < B) : GL w' := by
  obtain ⟨h0, h1, h2, h3, h4⟩ := h
  refine ⟨?_, ?_, ?_, ?_, Nat.lt_of_lt_of_le h4 hb.size⟩
  · rw [hb.cell (p := ⟨7, 0, none⟩) hB]; exact h0
  · rw [hb.cell (p := ⟨7, 1, none⟩) hB]; exact h1
  · rw [hb.cell (p := ⟨7, 2, none⟩) hB]; exact h2
  rw [hb.cell (p := ⟨7, 3, none⟩) hB]; exact h3

theorem Q74 (a0 a1 a2 a3 b0 b1 b2 b3 : Int) (ha : U4 a0 a1 a2 a3) (hb : U4 b0 b1 b2 b3) (w : World) :
    Calls Tryz.prog 140 #[A4 a0 a1 a2 a3, A4 b0 b1 b2 b3] w fun e w' =>
      K7 (.tuple #[L4 (J6p (J0i a0 a1 a2 a3) (J0i b0 b1 b2 b3)), .int .u64 (brw (J0i a0 a1 a2 a3) (J0i b0 b1 b2 b3))]) w w' e := by
  have D := Q3j a0 a1 a2 a3 b0 b1 b2 b3 ha hb
  have HC := Lib.hid D
  clear D
  have h0 := J33 a0 b0 0 ha.1 hb.1 (by omega) (by omega)
  have h1 := J33 a1 b1 _ ha.2.1 hb.2.1 (J4f a0 b0 0).1 (J4f a0 b0 0).2
  have h2 := J33 a2 b2 _ ha.2.2.1 hb.2.2.1 (J4f a1 b1 (sbB a0 b0 0)).1 (J4f a1 b1 (sbB a0 b0 0)).2
  have h3 := J33 a3 b3 _ ha.2.2.2 hb.2.2.2 (J4f a2 b2 (sbB a1 b1 (sbB a0 b0 0))).1 (J4f a2 b2 (sbB a1 b1 (sbB a0 b0 0))).2
  clear ha hb
  go_enter Tryz.func140, Tryz.ntmps140
  go_wp2
  refine wp_loop_rounds 5 ?_
  rw [rounds_succ]
  go_wp2
  go_region
  go_wp2
  rw [rounds_succ]
  go_wp2
  go_region
  go_wp2
  rw [rounds_succ]
  go_wp2
  go_region
  go_wp2
  rw [rounds_succ]
  go_wp2
  go_region
  go_wp2
  rw [rounds_succ]
  go_wp2
  refine bodyPost_ret (v := .tuple #[A4 (sbD a0 b0 0) (sbD a1 b1 (sbB a0 b0 0)) (sbD a2 b2 (sbB a1 b1 (sbB a0 b0 0))) (sbD a3 b3 (sbB a2 b2 (sbB a1 b1 (sbB a0 b0 0)))), .int .u64 (sbB a3 b3 (sbB a2 b2 (sbB a1 b1 (sbB a0 b0 0))))]) (by simp [results, Tryz.results140, go_sem]) rfl ⟨?_, ?_⟩
  · rw [HC.out.1, HC.out.2]
  exact bz

theorem Z73 (a0 a1 a2 a3 b0 b1 b2 b3 : Int) (ha : U4 a0 a1 a2 a3) (hb : U4 b0 b1 b2 b3) (w : World) :
    Calls Tryz.prog 139 #[A4 a0 a1 a2 a3, A4 b0 b1 b2 b3] w fun e w' =>
      K7 (.bool (decide (J0i a0 a1 a2 a3 < J0i b0 b1 b2 b3))) w w' e := by
  go_enter Tryz.func139, Tryz.ntmps139
  go_wp2_with (go_at_call 140; refine (Q74 _ _ _ _ _ _ _ _ ha hb _).mono ?_; rintro e w1 ⟨rfl, D⟩)
  go_ret
  refine ⟨?_, ?_⟩
  · unfold brw; split <;> simp [*]
  have s1 := D.size
  simp only [World.size_alloc] at s1
  exact bz

theorem Q2r : U4 6346243789798364141 1503914060200516822 0 1152921504606846976 := by simp [U4, V1]
theorem J8n : J0i 6346243789798364141 1503914060200516822 0 1152921504606846976 = LL := by decide +kernel
theorem L4_order : L4 LL = A4 6346243789798364141 1503914060200516822 0 1152921504606846976 := by rw [Z04 _ _ _ _ Q2r, J8n]


theorem Q99 (a0 a1 a2 a3 bit : Int) (ha : U4 a0 a1 a2 a3) (hb0 : 0 ≤ bit) (hb1 : bit ≤ 1) (hA : J0i a0 a1 a2 a3 < LL) :
    U4 (bits .or .u64 (IntKind.wrap .u64 (a0 * 2)) bit) (bits .or .u64 (IntKind.wrap .u64 (a1 * 2)) (a0 / 9223372036854775808)) (bits .or .u64 (IntKind.wrap .u64 (a2 * 2)) (a1 / 9223372036854775808)) (bits .or .u64 (IntKind.wrap .u64 (a3 * 2)) (a2 / 9223372036854775808)) ∧
    J0i (bits .or .u64 (IntKind.wrap .u64 (a0 * 2)) bit) (bits .or .u64 (IntKind.wrap .u64 (a1 * 2)) (a0 / 9223372036854775808)) (bits .or .u64 (IntKind.wrap .u64 (a2 * 2)) (a1 / 9223372036854775808)) (bits .or .u64 (IntKind.wrap .u64 (a3 * 2)) (a2 / 9223372036854775808)) = 2 * J0i a0 a1 a2 a3 + bit.toNat := by
  obtain ⟨h0, h1, h2, h3⟩ := ha
  rw [Q0t a0 bit h0 hb0 hb1, Q0t a1 _ h1 (by unfold V1 at h0; omega) (by unfold V1 at h0; omega), Q0t a2 _ h2 (by unfold V1 at h1; omega) (by unfold V1 at h1; omega), Q0t a3 _ h3 (by unfold V1 at h2; omega) (by unfold V1 at h2; omega)]
  have hu : U4 (a0 * 2 % 18446744073709551616 + bit) (a1 * 2 % 18446744073709551616 + a0 / 9223372036854775808) (a2 * 2 % 18446744073709551616 + a1 / 9223372036854775808) (a3 * 2 % 18446744073709551616 + a2 / 9223372036854775808) := by
    unfold U4 V1 at *; omega
  refine ⟨hu, ?_⟩
  have i1 := J41 _ _ _ _ hu
  have i2 := J41 _ _ _ _ ⟨h0, h1, h2, h3⟩
  have h3' : a3 < 1152921504606846977 := by
    have : (J0i a0 a1 a2 a3 : Int) < LL := by exact_mod_cast hA
    rw [i2] at this
    unfold LL V1 at *
    omega
  generalize J0i (a0 * 2 % 18446744073709551616 + bit) (a1 * 2 % 18446744073709551616 + a0 / 9223372036854775808) (a2 * 2 % 18446744073709551616 + a1 / 9223372036854775808) (a3 * 2 % 18446744073709551616 + a2 / 9223372036854775808) = X at *
  generalize J0i a0 a1 a2 a3 = A at *
  clear hA hu
  unfold V1 at *
  omega

theorem Z74 (x : Nat) (h : x < 2 * LL) (hx : ¬ x < LL) : J6p x LL = x % LL := by
  have e : x % LL = x - LL := by rw [Nat.mod_eq_sub_mod (by omega), Nat.mod_eq_of_lt (by omega)]
  rw [e]; unfold J6p LL at *; omega

theorem Y1j (a0 a1 a2 a3 bit : Int) (ha : U4 a0 a1 a2 a3) (hb0 : 0 ≤ bit) (hb1 : bit ≤ 1) (hA : J0i a0 a1 a2 a3 < LL) (w : World) (hG : GL w) :
    Calls Tryz.prog 164 #[A4 a0 a1 a2 a3, .int .u64 bit] w fun e w' =>
      K7 (L4 ((2 * J0i a0 a1 a2 a3 + bit.toNat) % LL)) w w' e := by
  obtain ⟨hO, hV⟩ := Q99 a0 a1 a2 a3 bit ha hb0 hb1 hA
  have HV := Lib.hid hV
  have HA := Lib.hid hA
  clear hV hA
  have HG := Lib.hid hG
  obtain ⟨g0, g1, g2, g3, g4⟩ := hG
  have S : ∀ o, (w.alloc o).cell? ⟨7, 0, none⟩ = w.cell? ⟨7, 0, none⟩ := fun o => World.cell?_alloc_lt w o _ g4
  have U : ∀ o o', ((w.alloc o).alloc o').cell? ⟨7, 0, none⟩ = w.cell? ⟨7, 0, none⟩ := fun o o' => (World.cell?_alloc_lt _ o' _ (by rw [World.size_alloc]; show 7 < _; omega)).trans (S o)
  have ε : ∀ o o' D, (((w.alloc o).alloc o').alloc D).cell? ⟨7, 0, none⟩ = w.cell? ⟨7, 0, none⟩ := fun o o' D => (World.cell?_alloc_lt _ D _ (by rw [World.size_alloc, World.size_alloc]; show 7 < _; omega)).trans (U o o')
  have R : ∀ o, (w.alloc o).cell? ⟨7, 1, none⟩ = w.cell? ⟨7, 1, none⟩ := fun o => World.cell?_alloc_lt w o _ g4
  have V : ∀ o o', ((w.alloc o).alloc o').cell? ⟨7, 1, none⟩ = w.cell? ⟨7, 1, none⟩ := fun o o' => (World.cell?_alloc_lt _ o' _ (by rw [World.size_alloc]; show 7 < _; omega)).trans (R o)
  have β : ∀ o o' D, (((w.alloc o).alloc o').alloc D).cell? ⟨7, 1, none⟩ = w.cell? ⟨7, 1, none⟩ := fun o o' D => (World.cell?_alloc_lt _ D _ (by rw [World.size_alloc, World.size_alloc]; show 7 < _; omega)).trans (V o o')
  have Z : ∀ o, (w.alloc o).cell? ⟨7, 2, none⟩ = w.cell? ⟨7, 2, none⟩ := fun o => World.cell?_alloc_lt w o _ g4
  have T : ∀ o o', ((w.alloc o).alloc o').cell? ⟨7, 2, none⟩ = w.cell? ⟨7, 2, none⟩ := fun o o' => (World.cell?_alloc_lt _ o' _ (by rw [World.size_alloc]; show 7 < _; omega)).trans (Z o)
  have γ : ∀ o o' D, (((w.alloc o).alloc o').alloc D).cell? ⟨7, 2, none⟩ = w.cell? ⟨7, 2, none⟩ := fun o o' D => (World.cell?_alloc_lt _ D _ (by rw [World.size_alloc, World.size_alloc]; show 7 < _; omega)).trans (T o o')
  have N : ∀ o, (w.alloc o).cell? ⟨7, 3, none⟩ = w.cell? ⟨7, 3, none⟩ := fun o => World.cell?_alloc_lt w o _ g4
  have X : ∀ o o', ((w.alloc o).alloc o').cell? ⟨7, 3, none⟩ = w.cell? ⟨7, 3, none⟩ := fun o o' => (World.cell?_alloc_lt _ o' _ (by rw [World.size_alloc]; show 7 < _; omega)).trans (N o)
  have δ : ∀ o o' D, (((w.alloc o).alloc o').alloc D).cell? ⟨7, 3, none⟩ = w.cell? ⟨7, 3, none⟩ := fun o o' D => (World.cell?_alloc_lt _ D _ (by rw [World.size_alloc, World.size_alloc]; show 7 < _; omega)).trans (X o o')
  obtain ⟨⟨l0, u0⟩, ⟨l1, u1⟩, ⟨l2, u2⟩, ⟨l3, u3⟩⟩ := ha
  go_enter Tryz.func164, Tryz.ntmps164
  go_wp2
  refine wp_loop_rounds 5 ?_
  rw [rounds_succ]
  go_wp2
  rw [rounds_succ]
  go_wp2
  rw [rounds_succ]
  go_wp2
  rw [rounds_succ]
  go_wp2
  rw [rounds_succ]
  go_wp2_with fail
  generalize bits .or .u64 (IntKind.wrap .u64 (a0 * 2)) bit = o0 at *
  generalize bits .or .u64 (IntKind.wrap .u64 (a1 * 2)) (a0 / 9223372036854775808) = o1 at *
  generalize bits .or .u64 (IntKind.wrap .u64 (a2 * 2)) (a1 / 9223372036854775808) = o2 at *
  generalize bits .or .u64 (IntKind.wrap .u64 (a3 * 2)) (a2 / 9223372036854775808) = o3 at *
  refine (Z73 _ _ _ _ _ _ _ _ hO Q2r _).mono ?_
  rintro e w1 ⟨rfl, hb1⟩
  rw [J8n]
  obtain ⟨J, Y⟩ := Y49 hb1
  have s1 := hb1.size
  simp only [World.size_alloc] at s1 J Y
  have z1 : w.heap.size + 1 < w1.heap.size := by omega
  have q0 : w1.cell? ⟨7, 0, none⟩ = some (.int .u64 6346243789798364141) := by rw [J _ _ (by omega)]; go_simp
  have q1 : w1.cell? ⟨7, 1, none⟩ = some (.int .u64 1503914060200516822) := by rw [J _ _ (by omega)]; go_simp
  have q2 : w1.cell? ⟨7, 2, none⟩ = some (.int .u64 0) := by rw [J _ _ (by omega)]; go_simp
  have q3 : w1.cell? ⟨7, 3, none⟩ = some (.int .u64 1152921504606846976) := by rw [J _ _ (by omega)]; go_simp
  by_cases G : J0i o0 o1 o2 o3 < LL
  · rw [show decide (J0i o0 o1 o2 o3 < LL) = true from decide_eq_true G]
    have HL := Lib.hid G
    clear G
    go_wp2
    refine bodyPost_ret (v := A4 o0 o1 o2 o3) (by simp only [results, Tryz.results164]; go_simp) rfl ⟨?_, ?_⟩
    · rw [Z04 _ _ _ _ hO, ← HV.out, Nat.mod_eq_of_lt HL.out]
    exact bz
  rw [show decide (J0i o0 o1 o2 o3 < LL) = false from decide_eq_false G]
  have HL := Lib.hid G
  clear G
  go_wp2_with (go_at_call 140; refine (Q74 _ _ _ _ _ _ _ _ hO Q2r _).mono ?_; rintro e w2 ⟨rfl, M⟩; obtain ⟨ζ, α⟩ := Y49 M; have s2 := M.size; have z2 : w.heap.size + 1 < w2.heap.size := by omega)
  refine bodyPost_ret (v := L4 (J6p (J0i o0 o1 o2 o3) LL)) (by simp only [results, Tryz.results164, ← J8n]; go_simp) rfl ⟨?_, ?_⟩
  · rw [← HV.out, Z74 _ (by have := HV.out; have := HA.out; omega) HL.out]
  exact bz

theorem V0t (A B : Nat) (hA : A < Q5) (hB : B < Q5) (w : World) : Calls Tryz.prog 140 #[L4 A, L4 B] w fun e w' => K7 (.tuple #[L4 (J6p A B), .int .u64 (brw A B)]) w w' e := by
  have h := Q74 _ _ _ _ _ _ _ _ (J4m A) (J4m B) w
  rw [J12 A hA, J12 B hB] at h; exact h
theorem Y7f (A B : Nat) (hA : A < Q5) (hB : B < Q5) (w : World) : Calls Tryz.prog 139 #[L4 A, L4 B] w fun e w' => K7 (.bool (decide (A < B))) w w' e := by
  have h := Z73 _ _ _ _ _ _ _ _ (J4m A) (J4m B) w
  rw [J12 A hA, J12 B hB] at h; exact h
theorem Y55 : LL < Q5 := by decide +kernel
@[go_sem] def LV : Value := .agg #[.int .u64 6346243789798364141, .int .u64 1503914060200516822, .int .u64 0, .int .u64 1152921504606846976]
theorem Y56 : LV = L4 LL := L4_order.symm
theorem V3j (A : Nat) (hA : A < Q5) (w : World) : Calls Tryz.prog 140 #[L4 A, LV] w fun e w' => K7 (.tuple #[L4 (J6p A LL), .int .u64 (brw A LL)]) w w' e := by rw [Y56]; exact V0t A LL hA Y55 w
theorem Y57 (A : Nat) (hA : A < Q5) (w : World) : Calls Tryz.prog 139 #[L4 A, LV] w fun e w' => K7 (.bool (decide (A < LL))) w w' e := by rw [Y56]; exact Y7f A LL hA Y55 w
end

section
set_option maxHeartbeats 2000000

theorem Q7k (ws : Nat → Int) : ∀ n q r, q < n → r < 64 → (∀ j, j < n → V1 (ws j)) → J1o ws n / 2 ^ (64 * q + r) % 2 = (ws q).toNat / 2 ^ r % 2
  | 0, _, _, h, _, _ => by omega
  | n + 1, q, r, h, hr, hw => by
    show (J1o ws n + (ws n).toNat * 2 ^ (64 * n)) / 2 ^ (64 * q + r) % 2 = _
    by_cases hq : q = n
    · subst hq
      have hl := J8t ws q (fun j hj => hw j (by omega))
      rw [Nat.pow_add, ← Nat.div_div_eq_div_mul, Nat.add_mul_div_right _ _ (Nat.two_pow_pos _), Nat.div_eq_of_lt hl, Nat.zero_add]
    · have ih := Q7k ws n q r (by omega) hr (fun j hj => hw j (by omega))
      obtain ⟨d, hd⟩ : ∃ d, 64 * n = (64 * q + r) + (1 + d) := ⟨64 * n - (64 * q + r) - 1, by omega⟩
      rw [hd, Nat.pow_add 2 (64 * q + r), Nat.mul_left_comm, Nat.add_mul_div_left _ _ (Nat.two_pow_pos _), Nat.pow_add 2 1 d, Nat.mul_left_comm, Nat.pow_one, Nat.add_mul_mod_self_left]
      exact ih
theorem Z75 (ws : Nat → Int) (n q r : Nat) (hq : q < n) (hr : r < 64) (hw : ∀ j, j < n → V1 (ws j)) :
    (0 ≤ bits .and .u64 (ws q / 2 ^ r) 1 ∧ bits .and .u64 (ws q / 2 ^ r) 1 ≤ 1) ∧ (bits .and .u64 (ws q / 2 ^ r) 1).toNat = J1o ws n / 2 ^ (64 * q + r) % 2 := by
  have hb := Q7k ws n q r hq hr hw
  obtain ⟨x0, x1⟩ := hw q hq
  obtain ⟨X, hX⟩ := Int.eq_ofNat_of_zero_le x0
  rw [hX] at hb x1 ⊢
  rw [Int.toNat_natCast] at hb
  have e : ((X : Int) / 2 ^ r) = ((X / 2 ^ r : Nat) : Int) := by push_cast; rfl
  have hl : X / 2 ^ r ≤ X := Nat.div_le_self _ _
  have e2 : bits .and .u64 (((X / 2 ^ r : Nat) : Int)) ((1 : Nat) : Int) = ((X / 2 ^ r % 2 : Nat) : Int) := by
    rw [bits_and_u64_nat _ _ (by omega) (by omega), Nat.and_one_is_mod]
  rw [e]
  have e3 : bits .and .u64 (((X / 2 ^ r : Nat) : Int)) 1 = ((X / 2 ^ r % 2 : Nat) : Int) := e2
  rw [e3, hb]
  omega
theorem Z76 (V K : Nat) : (2 * (V / 2 ^ (K + 1) % LL) + V / 2 ^ K % 2) % LL = V / 2 ^ K % LL := by
  have e : V / 2 ^ K = 2 * (V / 2 ^ (K + 1)) + V / 2 ^ K % 2 := by
    rw [Nat.pow_succ, ← Nat.div_div_eq_div_mul]; omega
  have h1 : (2 * (V / 2 ^ (K + 1) % LL) + V / 2 ^ K % 2) % LL = (2 * (V / 2 ^ (K + 1)) + V / 2 ^ K % 2) % LL := by
    rw [Nat.add_mod, Nat.mul_mod, Nat.mod_mod, ← Nat.mul_mod, ← Nat.add_mod]
  rw [h1, ← e]
theorem J6d (x : Nat) : x % LL < 115792089237316195423570985008687907853269984665640564039457584007913129639936 :=
  Nat.lt_trans (Nat.mod_lt _ (by decide)) (by decide)
theorem Q5u (ws : Nat → Int) (b off len cap : Nat) (w : World) (hG : GL w) (hlen : len ≤ 100) (hws : ∀ j, j < len → V1 (ws j))
    (hc : ∀ j, j < len → w.cell? ⟨b, off + j, none⟩ = some (.int .u64 (ws j))) (hb : b < w.heap.size) :
    Calls Tryz.prog 133 #[.slice (some ⟨b, off, none⟩) len cap] w fun e w' => K7 (L4 (J1o ws len % LL)) w w' e := by
  go_enter Tryz.func133, Tryz.ntmps133
  go_wp2
  go_loopw [4] (fun i wr => ∃ k : Nat, k ≤ 64 * len ∧ i = .int .i64 ((k : Int) - 1) ∧ Below w.heap.size w wr ∧
      Blk wr w.heap.size #[.int .u64 0, .int .u64 0, .int .u64 0, .int .u64 0] 153 ∧
      Blk wr (w.heap.size + 1) #[.int .u64 (K3 (J1o ws len / 2 ^ k % LL) 0), .int .u64 (K3 (J1o ws len / 2 ^ k % LL) 1), .int .u64 (K3 (J1o ws len / 2 ^ k % LL) 2), .int .u64 (K3 (J1o ws len / 2 ^ k % LL) 3)] 153)
    (fun i _ => (intOf i + 1).toNat)
  case atStart =>
    refine ⟨64 * len, Nat.le_refl _, ?_, ?_, ?_, ?_⟩
    · congr 1; omega
    · exact bz
    · exact Y5 (Y9 _ _ rfl) _
    rw [Nat.div_eq_of_lt (J8t ws len hws)]
    exact Y9 _ _ (by simp)
  case round =>
    obtain ⟨k, hk, rfl, J, M, D⟩ := hrel
    by_cases S : k = 0
    · subst S
      have T := J7 D
      have U := V2 D
      have Y := J7 M
      have ε := V2 M
      go_wp2
      refine bodyPost_ret (v := L4 (J1o ws len % LL)) (by simp only [results, Tryz.results133]; go_simp) rfl ⟨rfl, ?_⟩
      exact bz
    obtain ⟨q, r, hr, rfl⟩ : ∃ q r, r < 64 ∧ k = 64 * q + r + 1 := ⟨(k - 1) / 64, (k - 1) % 64, by omega, by omega⟩
    have e1 : ((64 * q + r + 1 : Nat) : Int) - 1 = 64 * (q : Int) + (r : Int) := by omega
    rw [e1]
    clear S e1
    have N := (J.cell (p := ⟨b, off + q, none⟩) hb).trans (hc q (by omega))
    have w1 : IntKind.i64.wrap ((64 * (q : Int) + (r : Int)).tdiv 64) = (q : Int) := by rw [Int.tdiv_eq_ediv_of_nonneg (by omega), IntWalk.i64_in _ (by omega)]; omega
    have w2 : (64 * (q : Int) + (r : Int)).tmod 64 = (r : Int) := by rw [Int.tmod_eq_emod_of_nonneg (by omega)]; omega
    have β : 0 ≤ (r : Int) := by omega
    have δ : (0 : Int) ≤ 64 * (q : Int) + (r : Int) := by omega
    have Z : (q : Int) < (len : Int) := by omega
    have X : (r : Int) < 64 := by omega
    have T := J7 D
    have U := V2 D
    go_wp2
    go_still_tail 10, (by kernel_rfl)
    change wpList _ _ _ _ _ wr.drew
    obtain ⟨hB, R⟩ := Z75 ws len q r (by omega) hr hws
    generalize bits .and .u64 (ws q / 2 ^ r) 1 = bt at *
    have HB := Lib.hid R
    clear R N w1 w2
    have HT := Y1j _ _ _ _ bt (J4m (J1o ws len / 2 ^ (64 * q + r + 1) % LL)) hB.1 hB.2 (by rw [J12 _ (J6d _)]; exact Nat.mod_lt _ (by decide)) wr.drew (J3i (hG) J.drew (by have := hG.2.2.2.2; omega))
    go_wp2_with (go_at_call 164; refine HT.mono ?_; rintro e w3 ⟨rfl, G⟩; have α := J7 (J2 (Y6 D) G); have ζ := V2 (J2 (Y6 D) G))
    rw [J12 _ (J6d _), HB.out, Z76]
    have V.size := J.size
    have γ := G.size
    go_roundw
    case rel =>
      refine ⟨64 * q + r, by omega, by go_num, ?_, J3p (J2 (Y6 M) G) (by omega) _ _ _ _, J8s (J2 (Y6 D) G) _ _ _ _⟩
      exact bz
    case measure => simp [intOf]; omega
end

section
set_option maxHeartbeats 2000000

theorem bytes_c (V : Nat) (hV : V < 115792089237316195423570985008687907853269984665640564039457584007913129639936) (w : World) (hG : GL w) :
    Calls Tryz.prog 91 #[L4 V] w fun e w' => K7 (.agg (J0 .u8 32 (Q3 (V % LL)))) w w' e := by
  go_enter Tryz.func91, Tryz.ntmps91
  go_wp2_with fail
  refine (Q5u (K3 V) _ _ _ _ _ ?_ (by omega) (fun j _ => J0j V j) ?_ (by simp only [World.size_alloc]; omega)).mono ?_
  · exact J3i hG (B := w.heap.size) (((Below.refl _ _).alloc (Nat.le_refl _) _).alloc (by simp) _) hG.2.2.2.2
  · intro j hj
    have h4 : j = 0 ∨ j = 1 ∨ j = 2 ∨ j = 3 := by omega
    refine (J7 (Y5 (Y9 #[.int .u64 (K3 V 0), .int .u64 (K3 V 1), .int .u64 (K3 V 2), .int .u64 (K3 V 3)] 153 rfl) _) _).trans ?_
    rcases h4 with rfl | rfl | rfl | rfl <;> rfl
  rintro e w1 ⟨rfl, M⟩
  have b0 : Blk w1 w.heap.size #[.int .u64 (K3 V 0), .int .u64 (K3 V 1), .int .u64 (K3 V 2), .int .u64 (K3 V 3)] 153 := J2 (Y5 (Y9 _ _ rfl) _) M
  have b1 : Blk w1 (w.heap.size + 1) (J0 .u8 32 fun _ => 0) 23 := J2 (Y9 _ _ (by simp)) M
  have s1 := M.size
  simp only [World.size_alloc] at s1
  rw [Q3l V hV]
  generalize hN : V % LL = N
  have HN := Lib.hid hN
  clear hN
  have c0 := J7 b0
  have f0 := V2 b0
  go_wp2
  go_loopw [7] (fun i wr => ∃ k : Nat, k ≤ 32 ∧ i = .int .i64 k ∧ Below w.heap.size w wr ∧
      Blk wr w.heap.size #[.int .u64 (K3 N 0), .int .u64 (K3 N 1), .int .u64 (K3 N 2), .int .u64 (K3 N 3)] 153 ∧
      Blk wr (w.heap.size + 1) (J0 .u8 32 fun _ => 0) 23 ∧
      Blk wr w1.heap.size (J0 .u8 32 fun j => if j < k then Q3 N j else 0) 23)
    (fun i _ => (32 - intOf i).toNat)
  case atStart =>
    refine ⟨0, by omega, rfl, ?_, Y5 (J8s b0 _ _ _ _) _, Y5 (J3p b1 (by omega) _ _ _ _) _, ?_⟩
    · exact bz
    exact Y9 _ _ (by simp)
  case round =>
    obtain ⟨k, hk, rfl, J, S, G, D⟩ := hrel
    by_cases T : k = 32
    · subst T
      go_wp2_with (first | (refine wpList_load_row rfl 23 (.tmp 3) rfl w1.heap.size rfl _ _ _ _ D Tryz.underlying23 rfl (by kernel_rfl) ?_) | (refine wpList_store_row rfl 23 (.tmp 2) (.tmp 22) rfl (w.heap.size + 1) _ rfl rfl 23 _ G (by kernel_rfl) (by kernel_rfl) (Z9 _ _ _) ?_))
      refine bodyPost_ret (results_cell_row rfl _ _ (w.heap.size + 1) _ _ _ _ rfl (Y8 G _) Tryz.underlying23 rfl (by kernel_rfl)) rfl ⟨?_, Z7 J (by omega) _⟩
      rw [K5 _ _ _ (Q3 N) (fun i hi => if_pos hi), HN.out]
    obtain ⟨q, r, hr, rfl⟩ : ∃ q r, r < 8 ∧ k = 8 * q + r := ⟨k / 8, k % 8, by omega, by omega⟩
    have d1 : (8 * (q : Int) + (r : Int)) / 8 = (q : Int) := by omega
    have d2 : (8 * (q : Int) + (r : Int)) % 8 = (r : Int) := by omega
    have Y : (q : Int) < 4 := by omega
    have X : (r : Int) < 8 := by omega
    have c0 := (J7 S q).trans (show _ = some (.int .u64 (K3 N q)) by (have : q = 0 ∨ q = 1 ∨ q = 2 ∨ q = 3 := by omega); rcases this with rfl | rfl | rfl | rfl <;> rfl)
    have c3 := J7 D (8 * q + r)
    rw [J3 _ _ _ _ (by omega)] at c3
    have f3 := V2 D
    go_wp2
    have U.size := J.size
    have Z := Q2 D
    go_roundw
    case rel =>
      refine ⟨8 * q + r + 1, by omega, by go_num, ?_, J6 S (by omega) _ _, J6 G (by omega) _ _, ?_⟩
      · exact bz
      have hs := Z8 D (8 * q + r) (.int .u8 (K3 N q / 2 ^ (8 * r) % 256))
      rw [V4] at hs
      rw [K5 _ _ _ _ (fun j hj => ?_)]
      · exact hs
      have R := Z06 N (8 * q + r)
      rw [show (8 * q + r) / 8 = q by omega, show (8 * q + r) % 8 = r by omega] at R
      unfold upd
      rw [R]
      dsimp only
      by_cases h1 : j = 8 * q + r
      · subst h1; rw [if_pos (by omega), if_pos rfl]
      rw [if_neg h1]
      by_cases h2 : j < 8 * q + r
      · rw [if_pos h2, if_pos (by omega)]
      rw [if_neg h2, if_neg (by omega)]
    case measure => simp [intOf]; omega
end

section
set_option maxHeartbeats 2000000

theorem Z1f (V b : Nat) (hV : V < Q5) (w : World) (hG : GL w) (hB : Blk w b (c4 V) 153) :
    Calls Tryz.prog 133 #[.slice (some ⟨b, 0, none⟩) 4 4] w fun e w' => K7 (L4 (V % LL)) w w' e := by
  have h := Q5u (K3 V) b 0 4 4 w hG (by omega) (fun j _ => J0j V j) (fun j hj => by
    have h4 : j = 0 ∨ j = 1 ∨ j = 2 ∨ j = 3 := by omega
    refine (J7 hB _).trans ?_
    rcases h4 with rfl | rfl | rfl | rfl <;> rfl) (Q2 hB)
  rw [Q3l V hV] at h
  exact h
theorem Y1k {w w' : World} (h : GL w) (hb : Below w.heap.size w w') : GL w' := J3i h hb h.2.2.2.2
theorem add_c (A B : Nat) (hA : A < Q5) (hB : B < Q5) (w : World) (hG : GL w) :
    Calls Tryz.prog 93 #[L4 A, L4 B] w fun e w' => K7 (L4 ((A + B) % LL)) w w' e := by
  have HG := Lib.hid hG
  clear hG
  go_enter Tryz.func93, Tryz.ntmps93
  go_wp2
  refine Q6g (fun W => Below w.heap.size w W ∧ w.heap.size + 2 < W.heap.size ∧ Blk W w.heap.size (c4 A) 153 ∧ Blk W (w.heap.size + 1) (c4 B) 153 ∧ Blk W (w.heap.size + 2) #[.int .u64 0, .int .u64 0, .int .u64 0, .int .u64 0] 153)
    ⟨bz, by simp, Y5 (Y5 (Y9 _ _ rfl) _) _, Y5 (Y9 _ _ (by simp)) _, Y9 _ _ (by simp)⟩ ?_
  rintro W ⟨M, β, b2, b3, b4⟩
  have α : Hid (GL W.drew) := Lib.hid (J3i HG.out M.drew HG.out.2.2.2.2)
  have b2 := Y6 b2
  have b3 := Y6 b3
  go_region_with (first
    | (go_at_call 133; (with_reducible refine (Z1f A w.heap.size hA _ α.out b2).mono ?_); rintro e w1 ⟨rfl, N⟩; have Y := J2 b2 N; have T := J2 b3 N)
    | (go_at_call 133; (with_reducible refine (Z1f B (w.heap.size + 1) hB _ (Y1k α.out N) T).mono ?_); rintro e w2 ⟨rfl, D⟩; have ψ := J7 (J2 Y D); have φ := V2 (J2 Y D); have ρ := J7 (J2 T D); have χ := V2 (J2 T D)))
  clear ψ φ ρ χ
  have η := J2 Y D
  have θ := J2 T D
  have ε := J2 (J2 (Y6 b4) N) D
  have s1 := N.size
  have s2 := D.size
  simp only [World.size_drew] at s1
  have σ : Below w.heap.size w w2 := Y4 (Y4 M.drew N (by simp only [World.size_drew]; omega)) D (by omega)
  have ξ : w.heap.size + 2 < w2.heap.size := by omega
  clear N D Y T b2 b3 b4 α s1 s2
  refine J5q (fun W => Below w.heap.size w W ∧ w.heap.size + 2 < W.heap.size ∧ Blk W w.heap.size (c4 (A % LL)) 153 ∧ Blk W (w.heap.size + 1) (c4 (B % LL)) 153 ∧ Blk W (w.heap.size + 2) #[.int .u64 0, .int .u64 0, .int .u64 0, .int .u64 0] 153)
    ⟨bz, by simpa using ξ, J3p (J8s η _ _ _ _) (by omega) _ _ _ _, J8s (J3p θ (by omega) _ _ _ _) _ _ _ _, J3p (J3p ε (by omega) _ _ _ _) (by omega) _ _ _ _⟩ ?_
  clear σ η θ ε M β ξ
  rintro X ⟨M, β, b2, b3, b4⟩
  have μ := Lib.hid (J3i HG.out M HG.out.2.2.2.2)
  have G := J4m (A % LL)
  have J := J4m (B % LL)
  have ν := Q3k _ _ _ _ _ _ _ _ 0 G J (by omega) (by omega)
  have q0 := J87 _ _ 0 G.1 J.1 (by omega) (by omega)
  have q1 := J87 _ _ _ G.2.1 J.2.1 q0.1 q0.2
  have q2 := J87 _ _ _ G.2.2.1 J.2.2.1 q1.1 q1.2
  have h0 := J0x _ _ 0 G.1 J.1 (by omega) (by omega)
  have h1 := J0x _ _ _ G.2.1 J.2.1 q0.1 q0.2
  have h2 := J0x _ _ _ G.2.2.1 J.2.2.1 q1.1 q1.2
  have h3 := J0x _ _ _ G.2.2.2 J.2.2.2 q2.1 q2.2
  obtain ⟨e0, e1, e2, e3⟩ := Y5s ν.1
  rw [e0] at h0
  rw [e1] at h1
  rw [e2] at h2
  rw [e3] at h3
  clear ν q0 q1 q2 G J e0 e1 e2 e3
  have hS : (A % LL + B % LL + (0 : Int).toNat) % 115792089237316195423570985008687907853269984665640564039457584007913129639936 = A % LL + B % LL := by
    have := Nat.mod_lt A (show 0 < LL by decide)
    have := Nat.mod_lt B (show 0 < LL by decide)
    unfold LL at *
    omega
  rw [J12 _ (J6d A), J12 _ (J6d B), hS] at h0 h1 h2 h3
  have γ : A % LL + B % LL < 2 * LL := by
    have := Nat.mod_lt A (show 0 < LL by decide)
    have := Nat.mod_lt B (show 0 < LL by decide)
    omega
  have ζ : (A % LL + B % LL) % LL = (A + B) % LL := by rw [← Nat.add_mod]
  generalize A % LL + B % LL = S at *
  have HS := Lib.hid γ
  have δ := Lib.hid ζ
  clear hS γ ζ
  have x2 := J7 b2
  have x3 := J7 b3
  obtain ⟨g0, g1, g2, g3, g4⟩ := μ.out
  have n1 : w.heap.size < X.heap.size := by omega
  have n2 : w.heap.size + 1 < X.heap.size := by omega
  go_wp2
  refine wp_loop_rounds 5 ?_
  rw [rounds_succ]
  go_wp2
  go_region
  go_wp2
  rw [rounds_succ]
  go_wp2
  go_region
  go_wp2
  rw [rounds_succ]
  go_wp2
  go_region
  go_wp2
  rw [rounds_succ]
  go_wp2
  go_region
  go_wp2
  rw [rounds_succ]
  go_wp2_with fail
  have κ : S < Q5 := by have := HS.out; unfold LL at this; unfold Q5; omega
  refine (Y57 S κ _).mono ?_
  rintro e w3 ⟨rfl, U⟩
  have V := J2 (Y6 (Y6 (Y6 (Y6 (Y5 b4 _))))) U
  have Γ : Blk w3 X.heap.size (c4 S) 153 := J2 (Y6 (Y6 (Y6 (Y6 (Y9 _ _ rfl))))) U
  have s3 := U.size
  simp only [World.size_drew, World.size_alloc] at s3
  have τ : Below w.heap.size w w3 := Y4 bz U (by simp only [World.size_drew, World.size_alloc]; omega)
  have ω := Lib.hid (J3i HG.out τ HG.out.2.2.2.2)
  clear b2 b3 b4 M x2 x3 h0 h1 h2 h3 U g0 g1 g2 g3 g4 μ
  have z2 := J7 V
  have t2 := V2 V
  have z5 := J7 Γ
  obtain ⟨g0, g1, g2, g3, g4⟩ := ω.out
  by_cases R : S < LL
  · rw [show decide (S < LL) = true from decide_eq_true R]
    have HL := Lib.hid R
    clear R
    go_wp2
    refine bodyPost_ret (v := L4 S) (by simp only [results, Tryz.results93]; go_simp) rfl ⟨?_, ?_⟩
    · rw [← δ.out, Nat.mod_eq_of_lt HL.out]
    exact bz
  rw [show decide (S < LL) = false from decide_eq_false R]
  have HL := Lib.hid R
  clear R
  go_wp2_with (go_at_call 140; refine (V3j S κ _).mono ?_; rintro e w4 ⟨rfl, Z⟩; have Θ := J7 (J2 V Z); have Δ := V2 (J2 V Z); have s4 := Z.size; have n4 : w.heap.size + 2 < w4.heap.size := by omega)
  refine bodyPost_ret (v := L4 (J6p S LL)) (by simp only [results, Tryz.results93]; go_simp) rfl ⟨?_, ?_⟩
  · rw [← δ.out, Z74 _ HS.out HL.out]
  exact bz
end
end Go.Proofs.YtejkmhgkkibafaaGreatDoor.S8.Sc

namespace Go.Proofs.YtejkmhgkkibafaaGreatDoor.S8

abbrev Q4 := Nat × Nat × Nat × Nat
def RQ4 (s : Q4) (a : Pr) : Prop := RN s.1 s.2.1 s.2.2.1 s.2.2.2 a
def twN : Q4 → Q4
  | (X, Y, Z, _) =>
    let A := X * X % PP
    let B := Y * Y % PP
    let C := (Z * Z % PP + Z * Z % PP) % PP
    let H := (A + B) % PP
    let S := (X + Y) % PP
    let E := (H + (PP - S * S % PP % PP)) % PP
    let G := (A + (PP - B % PP)) % PP
    let F := (C + G) % PP
    (E * F % PP, G * H % PP, F * G % PP, E * H % PP)
def adN : Q4 → Q4 → Q4
  | (X1, Y1, Z1, T1), (X2, Y2, Z2, T2) =>
    let A := (Y1 + (PP - X1 % PP)) % PP * ((Y2 + (PP - X2 % PP)) % PP) % PP
    let B := (Y1 + X1) % PP * ((Y2 + X2) % PP) % PP
    let C := T1 * D2 % PP * T2 % PP
    let D := (Z1 + Z1) % PP * Z2 % PP
    let E := (B + (PP - A % PP)) % PP
    let F := (D + (PP - C % PP)) % PP
    let G := (D + C) % PP
    let H := (B + A) % PP
    (E * F % PP, G * H % PP, F * G % PP, E * H % PP)
def tmN (P : Q4) (n : Nat) : Nat → Q4
  | 0 => (0, 1, 1, 0)
  | c + 1 => if n / 2 ^ (255 - c) % 2 = 1 then adN (twN (tmN P n c)) P else twN (tmN P n c)
theorem V0u {s : Q4} {a : Pr} (h : RQ4 s a) : RQ4 (twN s) (J0w a a) := by
  obtain ⟨X, Y, Z, T⟩ := s
  exact Q79 (X := X) (Y := Y) (Z := Z) (T := T) h rfl rfl rfl rfl rfl rfl rfl rfl rfl rfl rfl rfl rfl rfl
theorem V0v {s t : Q4} {a b : Pr} (h : RQ4 s a) (k : RQ4 t b) : RQ4 (adN s t) (J0w a b) := by
  obtain ⟨X1, Y1, Z1, T1⟩ := s
  obtain ⟨X2, Y2, Z2, T2⟩ := t
  exact Z6i (X1 := X1) (Y1 := Y1) (Z1 := Z1) (T1 := T1) (X2 := X2) (Y2 := Y2) (Z2 := Z2) (T2 := T2) h k rfl rfl rfl rfl rfl rfl rfl rfl rfl rfl rfl rfl rfl rfl rfl rfl rfl rfl
theorem Y59 {P : Q4} {a : Pr} {n : Nat} (hP : RQ4 P a) (hn : n < 2 ^ 256) : ∀ c, c ≤ 256 → RQ4 (tmN P n c) (pm a (n / 2 ^ (256 - c)))
  | 0, _ => by
    rw [show 256 - 0 = 256 by decide, Nat.div_eq_of_lt hn]
    exact rn_p0
  | c + 1, h => by
    have ih := Y59 hP hn c (by omega)
    rw [show 256 - c = (255 - c) + 1 by omega] at ih
    rw [show 256 - (c + 1) = 255 - c by omega]
    have e2 : n / 2 ^ (255 - c + 1) = n / 2 ^ (255 - c) / 2 := by rw [Nat.pow_succ, Nat.div_div_eq_div_mul]
    rw [e2] at ih
    unfold tmN
    generalize n / 2 ^ (255 - c) = m at *
    have hm := Nat.div_add_mod m 2
    have D := V0u ih
    rw [← Q2l hP.on] at D
    split
    · rename_i h1
      have := V0v D hP
      rwa [show J0w (pm a (2 * (m / 2))) a = pm a m by rw [show m = 2 * (m / 2) + 1 by omega]; exact congrArg (fun k => J0w (pm a (2 * k)) a) (by omega)] at this
    · rwa [show 2 * (m / 2) = m by omega] at D
theorem Y7g {P : Q4} {a : Pr} {n : Nat} (hP : RQ4 P a) (hn : n < 2 ^ 256) : RQ4 (tmN P n 256) (pm a n) := by
  have := Y59 hP hn 256 (Nat.le_refl _)
  rwa [Nat.sub_self, Nat.pow_zero, Nat.div_one] at this
theorem Y1n {s : Q4} {a : Pr} (h : RQ4 s a) (h1 : s.1 = 0) (h2 : s.2.1 = s.2.2.1) : a = p0 := by
  obtain ⟨hz, hx, hy, _⟩ := h.rc
  rw [h1, Q5m] at hx
  rw [h2] at hy
  have e1 : a.1 = 0 := (J3u hx.symm).resolve_right hz
  have e2 : a.2 = 1 := by
    have := J0k hz
    have e : (a.2 - 1) * fp s.2.2.1 = 0 := by grind
    have := (J3u e).resolve_right hz
    grind
  exact Prod.ext e1 e2
open Sc (LL)
def BQ : Q4 := (BX, BY, 1, BX * BY % PP)
theorem Y1o : RQ4 BQ BP := Z6d (by decide) (by decide) J9a rfl
theorem order_x : (tmN BQ LL 256).1 = 0 ∧ (tmN BQ LL 256).2.1 = (tmN BQ LL 256).2.2.1 := by decide +kernel
theorem V0w : pm BP LL = p0 := Y1n (Y7g Y1o (by decide)) order_x.1 order_x.2
theorem Q9a (n : Nat) : pm BP (n % LL) = pm BP n := by
  have h := Nat.div_add_mod n LL
  have e : pm BP n = J0w (pm BP (LL * (n / LL))) (pm BP (n % LL)) := by rw [← Q2p J9a, h]
  rw [e, Q97 J9a, V0w, Y50, Q5p]
end Go.Proofs.YtejkmhgkkibafaaGreatDoor.S8

namespace Go.Proofs.YtejkmhgkkibafaaGreatDoor.S8.Sc
section
set_option maxHeartbeats 4000000

theorem Z0v (A B : Nat) (hA : A < Q5) (hB : B < Q5) (h : ∀ i, i < 4 → K3 A i = K3 B i) : A = B := by
  rw [← J12 A hA, ← J12 B hB, h 0 (by omega), h 1 (by omega), h 2 (by omega), h 3 (by omega)]
end

section
set_option maxHeartbeats 4000000

theorem Y1l (f : Nat → Int) (b : Nat) (hf : ∀ j, j < 8 → V1 (f j)) (w : World) (hG : GL w) (hB : Blk w b (J0 .u64 8 f) 186) :
    Calls Tryz.prog 133 #[.slice (some ⟨b, 0, none⟩) 8 8] w fun e w' => K7 (L4 (J1o f 8 % LL)) w w' e :=
  Q5u f b 0 8 8 w hG (by omega) hf (fun j hj => by rw [Nat.zero_add]; exact (J7 hB _).trans (J3 _ _ _ _ hj)) (Q2 hB)

theorem J3h (V i : Nat) (h : i < 4) : (c4 V)[i]? = some (.int .u64 (K3 V i)) := by
  have : i = 0 ∨ i = 1 ∨ i = 2 ∨ i = 3 := by omega
  rcases this with rfl | rfl | rfl | rfl <;> rfl

theorem Q58 (i k : Nat) (x y g c s cv : Int) (V V' Y Y' X B0 : Nat) (hx : V1 x) (hy : V1 y) (hg : V1 g) (hc : V1 c) (hs : V1 s) (hcv : V1 cv)
    (h5 : s + 18446744073709551616 * cv = x * y + g + c) (h1 : V' + g.toNat * 2 ^ (64 * (i + k)) = V + s.toNat * 2 ^ (64 * (i + k)))
    (h2 : V + c.toNat * 2 ^ (64 * (i + k)) = X + x.toNat * 2 ^ (64 * i) * Y) (hY : Y' = Y + y.toNat * 2 ^ (64 * k)) :
    V' + cv.toNat * 2 ^ (64 * (i + (k + 1))) = X + x.toNat * 2 ^ (64 * i) * Y' := by
  obtain ⟨x, rfl⟩ := Int.eq_ofNat_of_zero_le hx.1
  obtain ⟨y, rfl⟩ := Int.eq_ofNat_of_zero_le hy.1
  obtain ⟨g, rfl⟩ := Int.eq_ofNat_of_zero_le hg.1
  obtain ⟨c, rfl⟩ := Int.eq_ofNat_of_zero_le hc.1
  obtain ⟨s, rfl⟩ := Int.eq_ofNat_of_zero_le hs.1
  obtain ⟨d, rfl⟩ := Int.eq_ofNat_of_zero_le hcv.1
  simp only [Int.toNat_natCast] at *
  have h6 : s + 18446744073709551616 * d = x * y + g + c := by
    rw [← Int.natCast_mul] at h5
    generalize x * y = p at *
    omega
  have e1 : (2 : Nat) ^ (64 * (i + (k + 1))) = 18446744073709551616 * 2 ^ (64 * (i + k)) := by
    rw [show 64 * (i + (k + 1)) = 64 + 64 * (i + k) by omega, Nat.pow_add]
  have e2 : (2 : Nat) ^ (64 * (i + k)) = 2 ^ (64 * i) * 2 ^ (64 * k) := by rw [Nat.mul_add, Nat.pow_add]
  rw [hY, e1, Nat.mul_add (x * 2 ^ (64 * i))]
  have e3 : x * 2 ^ (64 * i) * (y * 2 ^ (64 * k)) = x * y * 2 ^ (64 * (i + k)) := by rw [e2, Nat.mul_mul_mul_comm]
  rw [e3]
  generalize 2 ^ (64 * (i + k)) = W at *
  have e4 : d * (18446744073709551616 * W) = 18446744073709551616 * d * W := by rw [Nat.mul_left_comm, Nat.mul_assoc]
  rw [e4]
  have h7 : s * W + 18446744073709551616 * d * W = x * y * W + g * W + c * W := by
    rw [← Nat.add_mul, h6, Nat.add_mul, Nat.add_mul]
  omega

theorem Q59 (B V' V C X Y W : Nat) {g : Int} (hB : B < Q5) (hg : g = 0) (h1 : V' + g.toNat * W = V + C) (h2 : V + C = X + Y * (B % 2 ^ (64 * 4))) : V' = X + Y * B := by
  rw [Nat.mod_eq_of_lt (show B < 2 ^ (64 * 4) from hB)] at h2
  rw [hg, Int.toNat_zero, Nat.zero_mul, Nat.add_zero] at h1
  rw [h1, h2]

theorem mul_c (A B : Nat) (hA : A < Q5) (hB : B < Q5) (w : World) (hG : GL w) :
    Calls Tryz.prog 94 #[L4 A, L4 B] w fun e w' => K7 (L4 (A * B % LL)) w w' e := by
  have HG := Lib.hid hG
  clear hG
  go_enter Tryz.func94, Tryz.ntmps94
  go_wp2
  go_loopw [16] (fun ii wr => ∃ i : Nat, i ≤ 4 ∧ ii = .int .i64 i ∧ Below w.heap.size w wr ∧
      Blk wr (w.heap.size + 1) (c4 B) 153 ∧ Blk wr (w.heap.size + 2) #[.int .u64 0, .int .u64 0, .int .u64 0, .int .u64 0] 153 ∧
      ∃ f : Nat → Int, Blk wr (w.heap.size + 3) (J0 .u64 8 f) 186 ∧ (∀ j, V1 (f j)) ∧ (∀ j, i + 4 ≤ j → f j = 0) ∧ J1o f 8 = A % 2 ^ (64 * i) * B)
    (fun ii _ => (4 - intOf ii).toNat)
  case atStart =>
    refine ⟨0, by omega, rfl, ?_, Y5 (Y5 (Y9 _ _ (by simp)) _) _, Y5 (Y9 _ _ (by simp)) _, fun _ => 0, Y9 _ _ (by simp), fun _ => ⟨by simp, by simp⟩, fun _ _ => rfl, ?_⟩
    · exact bz
    rw [J7q, Nat.mul_zero, Nat.pow_zero, Nat.mod_one, Nat.zero_mul]
  case round =>
    obtain ⟨i, hi, rfl, D, b1, b2, f, b3, hf, T, hv⟩ := hrel
    by_cases U : i = 4
    · subst U
      have HV := Lib.hid hv
      clear hv
      have c2 := J7 b2
      have f2 := V2 b2
      go_wp2_with (go_at_call 133; refine (Y1l f (w.heap.size + 3) (fun j _ => hf j) _ (J3i HG.out D HG.out.2.2.2.2) b3).mono ?_; rintro e w1 ⟨rfl, M⟩; have β := J7 (J2 b2 M); have α := V2 (J2 b2 M))
      refine bodyPost_ret (v := L4 (J1o f 8 % LL)) (by simp only [results, Tryz.results94]; go_simp) rfl ⟨?_, ?_⟩
      · rw [HV.out, Nat.mod_eq_of_lt (show A < 2 ^ (64 * 4) from hA)]
      have := M.size
      have := D.size
      exact bz
    have N : i < 4 := by omega
    have hi3' : (i : Int) < 4 := by omega
    have J : ∀ W, (Instr.index 153 (.agg #[.int .u64 (K3 A 0), .int .u64 (K3 A 1), .int .u64 (K3 A 2), .int .u64 (K3 A 3)]) (.int .i64 (i : Int))).run Tryz.prog W = .ok (.int .u64 (K3 A i)) W :=
      fun W => J1n W 153 71 4 .u64 .i64 (c4 A) i (K3 A i) Tryz.underlying153 Tryz.underlying71 (by kernel_rfl) N (J3h A i N)
    have c1 := J7 b1
    clear U
    go_wp2
    clear c1
    have V := Lib.hid T
    have HV := Lib.hid hv
    clear T hv J hi3'
    obtain ⟨wo, rfl⟩ : ∃ wo : World, wo = wr := ⟨_, rfl⟩
    go_loopw [8, 21] (fun cc kk wq => ∃ (k : Nat) (c : Int), k ≤ 4 ∧ kk = .int .i64 k ∧ cc = .int .u64 c ∧ V1 c ∧ Below w.heap.size w wq ∧
        Blk wq (w.heap.size + 1) (c4 B) 153 ∧ Blk wq (w.heap.size + 2) #[.int .u64 0, .int .u64 0, .int .u64 0, .int .u64 0] 153 ∧
        ∃ g : Nat → Int, Blk wq (w.heap.size + 3) (J0 .u64 8 g) 186 ∧ (∀ j, V1 (g j)) ∧ (∀ j, i + 4 ≤ j → g j = 0) ∧
          J1o g 8 + c.toNat * 2 ^ (64 * (i + k)) = A % 2 ^ (64 * i) * B + (K3 A i).toNat * 2 ^ (64 * i) * (B % 2 ^ (64 * k)))
      (fun _ kk _ => (4 - intOf kk).toNat)
    case atStart =>
      refine ⟨0, 0, by omega, rfl, rfl, ⟨by omega, by omega⟩, D, b1, b2, f, b3, hf, V.out, ?_⟩
      rw [HV.out, Nat.mul_zero, Nat.pow_zero, Nat.mod_one]; simp
    case round =>
      obtain ⟨k, c, hk, rfl, rfl, hc, D, b1, b2, g, b3, hg, R, hv⟩ := hrel
      have G := Lib.hid R
      have HV := Lib.hid hv
      clear R hv V
      by_cases S : k = 4
      · subst S
        have c3 := (J7 b3 (i + 4)).trans (J3 _ _ _ _ (by omega))
        have f3 := V2 b3
        have Z : (i : Int) + 4 < 8 := by omega
        go_wp2
        have hs := Z8 b3 (i + 4) (.int .u64 c)
        rw [V4] at hs
        go_roundw
        case rel =>
          refine ⟨i + 1, by omega, by go_num, ?_, J6 b1 (by omega) _ _, J6 b2 (by omega) _ _, upd g (i + 4) c, hs, ?_, ?_, ?_⟩
          · exact bz
          · intro j
            by_cases hj : j = i + 4
            · subst hj; rw [J1t]; exact hc
            rw [J0b _ _ _ _ hj]; exact hg j
          · intro j hj
            rw [J0b _ _ _ _ (by omega)]
            exact G.out j (by omega)
          rw [J5s, Nat.add_mul]
          exact Q59 B _ _ _ _ _ _ hB (G.out (i + 4) (by omega)) (J5r g (i + 4) c 8 (by omega)) HV.out
        case measure => simp [intOf]; omega
      have X : k < 4 := by omega
      have hk3' : (k : Int) < 4 := by omega
      clear S
      have J : ∀ W, (Instr.index 153 (.agg #[.int .u64 (K3 B 0), .int .u64 (K3 B 1), .int .u64 (K3 B 2), .int .u64 (K3 B 3)]) (.int .i64 (k : Int))).run Tryz.prog W = .ok (.int .u64 (K3 B k)) W :=
        fun W => J1n W 153 71 4 .u64 .i64 (c4 B) k (K3 B k) Tryz.underlying153 Tryz.underlying71 (by kernel_rfl) X (J3h B k X)
      obtain ⟨m1, m2, m3, m4, m5⟩ := Q1g (K3 A i) (K3 B k) (g (i + k)) c (J0j A i) (J0j B k) (hg _) hc
      have a1 := J0x (J5g (K3 A i) (K3 B k)) (g (i + k)) 0 m1 (hg _) (by omega) (by omega)
      have a2 := J0x (adS (J5g (K3 A i) (K3 B k)) (g (i + k)) 0) c 0 m2 hc (by omega) (by omega)
      obtain ⟨sv, Y⟩ : ∃ sv, sv = adS (adS (J5g (K3 A i) (K3 B k)) (g (i + k)) 0) c 0 := ⟨_, rfl⟩
      rw [← Y] at m4 m5 a2
      have M5 := Lib.hid m5
      clear m5 Y
      have c3 := (J7 b3 (i + k)).trans (J3 _ _ _ _ (by omega))
      have f3 := V2 b3
      have Z : (i : Int) + (k : Int) < 8 := by omega
      go_wp2_with (go_at_call 141; refine (Q4e _ _ (J0j A i) (J0j B k) _).mono ?_; rintro e w' ⟨rfl, rfl⟩)
      have hs := Z8 b3 (i + k) (.int .u64 sv)
      rw [V4] at hs
      have h1 := J5r g (i + k) sv 8 (by omega)
      have h2 := HV.out
      have h5 := M5.out
      clear HV M5 a1 a2 c3 f3 J
      go_roundw
      case rel =>
        (repeat apply Exists.intro)
        refine ⟨?_, rfl⟩
        refine ⟨k + 1, _, by omega, by go_num, rfl, m3, ?_, J6 b1 (by omega) _ _, J6 b2 (by omega) _ _, upd g (i + k) sv, hs, ?_, ?_, ?_⟩
        · exact bz
        · intro j
          by_cases hj : j = i + k
          · subst hj; rw [J1t]; exact m4
          rw [J0b _ _ _ _ hj]; exact hg j
        · intro j hj
          rw [J0b _ _ _ _ (by omega)]
          exact G.out j hj
        exact Q58 i k (K3 A i) (K3 B k) (g (i + k)) c sv _ _ _ _ _ _ 0 (J0j A i) (J0j B k) (hg _) hc m4 m3 h5 h1 h2 (J5s B k)
      case measure => simp [intOf]; omega
end
end Go.Proofs.YtejkmhgkkibafaaGreatDoor.S8.Sc
