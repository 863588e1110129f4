/- The walks of scalar.Num.sub, less, twice and Order, each once. Conditions: words of 64 bits; the cells of scalar.order hold the order. scalar.fold: words, the lowest first, as one number modulo the order. Conditions: the words lie in memory, each of 64 bits; scalar.order holds the order. scalar.Bytes. scalar.Add. -/
import Derived.Test.YtejkmhgkkibafaaGreatDoorJ8
import Derived.Test.YtejkmhgkkibafaaGreatDoorOz
import Derived.Test.YtejkmhgkkibafaaGreatDoorJ11
import Derived.Test.YtejkmhgkkibafaaGreatDoorGa
import Derived.Deep.QuietTactic
import Derived.BigQuiet
import Derived.BigRegion
import Derived.Lib.Hide
import Derived.Deep.RegionHeld3
import Derived.Deep.RegionWith
import Derived.StillTailTactics
set_option linter.unusedSimpArgs false
set_option linter.unusedVariables false
namespace Go.Proofs.YtejkmhgkkibafaaGreatDoor.S8.Sc
set_option maxHeartbeats 2000000
set_option maxRecDepth 100000
open Go.RowKit

def LL : Nat := 7237005577332262213973186563042994240857116359379907606001950938285454250989
/-- the order's cells -/
def GL (w : World) : Prop := w.cell? ⟨7, 0, none⟩ = some (.int .u64 6346243789798364141) ∧ w.cell? ⟨7, 1, none⟩ = some (.int .u64 1503914060200516822) ∧ w.cell? ⟨7, 2, none⟩ = some (.int .u64 0) ∧ w.cell? ⟨7, 3, none⟩ = some (.int .u64 1152921504606846976) ∧ 7 < w.heap.size
theorem GL_below {B : Nat} {w w' : World} (h : GL w) (hb : Below B w w') (hB : 7 < B) : GL w' := by
  obtain ⟨h0, h1, h2, h3, h4⟩ := h
  refine ⟨?_, ?_, ?_, ?_, Nat.lt_of_lt_of_le h4 hb.size⟩
  · rw [hb.cell (p := ⟨7, 0, none⟩) hB]; exact h0
  · rw [hb.cell (p := ⟨7, 1, none⟩) hB]; exact h1
  · rw [hb.cell (p := ⟨7, 2, none⟩) hB]; exact h2
  · rw [hb.cell (p := ⟨7, 3, none⟩) hB]; exact h3

theorem sub_c (a0 a1 a2 a3 b0 b1 b2 b3 : Int) (ha : U4 a0 a1 a2 a3) (hb : U4 b0 b1 b2 b3) (w : World) :
    Calls Tryz.prog 140 #[A4 a0 a1 a2 a3, A4 b0 b1 b2 b3] w fun e w' =>
      Ret (.tuple #[L4 (dif4 (val4 a0 a1 a2 a3) (val4 b0 b1 b2 b3)), .int .u64 (brw (val4 a0 a1 a2 a3) (val4 b0 b1 b2 b3))]) w w' e := by
  have hch := sub_chain a0 a1 a2 a3 b0 b1 b2 b3 ha hb
  have HC := Lib.hid hch
  clear hch
  have h0 := sub64_run a0 b0 0 ha.1 hb.1 (by omega) (by omega)
  have h1 := sub64_run a1 b1 _ ha.2.1 hb.2.1 (sbB_b a0 b0 0).1 (sbB_b a0 b0 0).2
  have h2 := sub64_run a2 b2 _ ha.2.2.1 hb.2.2.1 (sbB_b a1 b1 (sbB a0 b0 0)).1 (sbB_b a1 b1 (sbB a0 b0 0)).2
  have h3 := sub64_run a3 b3 _ ha.2.2.2 hb.2.2.2 (sbB_b a2 b2 (sbB a1 b1 (sbB a0 b0 0))).1 (sbB_b a2 b2 (sbB a1 b1 (sbB a0 b0 0))).2
  clear ha hb
  go_enter Tryz.func140, Tryz.ntmps140
  go_wp2
  refine wp_loop_rounds 5 ?_
  rw [rounds_succ]
  go_wp2
  go_region
  go_wp2
  rw [rounds_succ]
  go_wp2
  go_region
  go_wp2
  rw [rounds_succ]
  go_wp2
  go_region
  go_wp2
  rw [rounds_succ]
  go_wp2
  go_region
  go_wp2
  rw [rounds_succ]
  go_wp2
  refine bodyPost_ret (v := .tuple #[A4 (sbD a0 b0 0) (sbD a1 b1 (sbB a0 b0 0)) (sbD a2 b2 (sbB a1 b1 (sbB a0 b0 0))) (sbD a3 b3 (sbB a2 b2 (sbB a1 b1 (sbB a0 b0 0)))), .int .u64 (sbB a3 b3 (sbB a2 b2 (sbB a1 b1 (sbB a0 b0 0))))]) (by simp [results, Tryz.results140, go_sem]) rfl ⟨?_, ?_⟩
  · rw [HC.out.1, HC.out.2]
  · exact bz

theorem less_c (a0 a1 a2 a3 b0 b1 b2 b3 : Int) (ha : U4 a0 a1 a2 a3) (hb : U4 b0 b1 b2 b3) (w : World) :
    Calls Tryz.prog 139 #[A4 a0 a1 a2 a3, A4 b0 b1 b2 b3] w fun e w' =>
      Ret (.bool (decide (val4 a0 a1 a2 a3 < val4 b0 b1 b2 b3))) w w' e := by
  go_enter Tryz.func139, Tryz.ntmps139
  go_wp2_with (go_at_call 140; refine (sub_c _ _ _ _ _ _ _ _ ha hb _).mono ?_; rintro e w1 ⟨rfl, hb1⟩)
  go_ret
  refine ⟨?_, ?_⟩
  · unfold brw; split <;> simp [*]
  · have s1 := hb1.size
    simp only [World.size_alloc] at s1
    exact bz

theorem order_ok : U4 6346243789798364141 1503914060200516822 0 1152921504606846976 := by simp [U4, u64ok]
theorem val4_order : val4 6346243789798364141 1503914060200516822 0 1152921504606846976 = LL := by decide +kernel
theorem L4_order : L4 LL = A4 6346243789798364141 1503914060200516822 0 1152921504606846976 := by rw [A4_L4 _ _ _ _ order_ok, val4_order]


theorem twice_lims (a0 a1 a2 a3 bit : Int) (ha : U4 a0 a1 a2 a3) (hb0 : 0 ≤ bit) (hb1 : bit ≤ 1) (hA : val4 a0 a1 a2 a3 < LL) :
    U4 (bits .or .u64 (IntKind.wrap .u64 (a0 * 2)) bit) (bits .or .u64 (IntKind.wrap .u64 (a1 * 2)) (a0 / 9223372036854775808)) (bits .or .u64 (IntKind.wrap .u64 (a2 * 2)) (a1 / 9223372036854775808)) (bits .or .u64 (IntKind.wrap .u64 (a3 * 2)) (a2 / 9223372036854775808)) ∧
    val4 (bits .or .u64 (IntKind.wrap .u64 (a0 * 2)) bit) (bits .or .u64 (IntKind.wrap .u64 (a1 * 2)) (a0 / 9223372036854775808)) (bits .or .u64 (IntKind.wrap .u64 (a2 * 2)) (a1 / 9223372036854775808)) (bits .or .u64 (IntKind.wrap .u64 (a3 * 2)) (a2 / 9223372036854775808)) = 2 * val4 a0 a1 a2 a3 + bit.toNat := by
  obtain ⟨h0, h1, h2, h3⟩ := ha
  rw [shl1_or a0 bit h0 hb0 hb1, shl1_or a1 _ h1 (by unfold u64ok at h0; omega) (by unfold u64ok at h0; omega), shl1_or a2 _ h2 (by unfold u64ok at h1; omega) (by unfold u64ok at h1; omega), shl1_or a3 _ h3 (by unfold u64ok at h2; omega) (by unfold u64ok at h2; omega)]
  have hu : U4 (a0 * 2 % 18446744073709551616 + bit) (a1 * 2 % 18446744073709551616 + a0 / 9223372036854775808) (a2 * 2 % 18446744073709551616 + a1 / 9223372036854775808) (a3 * 2 % 18446744073709551616 + a2 / 9223372036854775808) := by
    unfold U4 u64ok at *; omega
  refine ⟨hu, ?_⟩
  have i1 := val4_int _ _ _ _ hu
  have i2 := val4_int _ _ _ _ ⟨h0, h1, h2, h3⟩
  have h3' : a3 < 1152921504606846977 := by
    have : (val4 a0 a1 a2 a3 : Int) < LL := by exact_mod_cast hA
    rw [i2] at this
    unfold LL u64ok at *
    omega
  generalize val4 (a0 * 2 % 18446744073709551616 + bit) (a1 * 2 % 18446744073709551616 + a0 / 9223372036854775808) (a2 * 2 % 18446744073709551616 + a1 / 9223372036854775808) (a3 * 2 % 18446744073709551616 + a2 / 9223372036854775808) = X at *
  generalize val4 a0 a1 a2 a3 = A at *
  clear hA hu
  unfold u64ok at *
  omega

theorem red_LL (x : Nat) (h : x < 2 * LL) (hx : ¬ x < LL) : dif4 x LL = x % LL := by
  have e : x % LL = x - LL := by rw [Nat.mod_eq_sub_mod (by omega), Nat.mod_eq_of_lt (by omega)]
  rw [e]; unfold dif4 LL at *; omega

theorem twice_c (a0 a1 a2 a3 bit : Int) (ha : U4 a0 a1 a2 a3) (hb0 : 0 ≤ bit) (hb1 : bit ≤ 1) (hA : val4 a0 a1 a2 a3 < LL) (w : World) (hG : GL w) :
    Calls Tryz.prog 164 #[A4 a0 a1 a2 a3, .int .u64 bit] w fun e w' =>
      Ret (L4 ((2 * val4 a0 a1 a2 a3 + bit.toNat) % LL)) w w' e := by
  obtain ⟨hO, hV⟩ := twice_lims a0 a1 a2 a3 bit ha hb0 hb1 hA
  have HV := Lib.hid hV
  have HA := Lib.hid hA
  clear hV hA
  have HG := Lib.hid hG
  obtain ⟨g0, g1, g2, g3, g4⟩ := hG
  have a0_ : ∀ o, (w.alloc o).cell? ⟨7, 0, none⟩ = w.cell? ⟨7, 0, none⟩ := fun o => World.cell?_alloc_lt w o _ g4
  have b0_ : ∀ o o', ((w.alloc o).alloc o').cell? ⟨7, 0, none⟩ = w.cell? ⟨7, 0, none⟩ := fun o o' => (World.cell?_alloc_lt _ o' _ (by rw [World.size_alloc]; show 7 < _; omega)).trans (a0_ o)
  have c0_ : ∀ o o' o'', (((w.alloc o).alloc o').alloc o'').cell? ⟨7, 0, none⟩ = w.cell? ⟨7, 0, none⟩ := fun o o' o'' => (World.cell?_alloc_lt _ o'' _ (by rw [World.size_alloc, World.size_alloc]; show 7 < _; omega)).trans (b0_ o o')
  have a1_ : ∀ o, (w.alloc o).cell? ⟨7, 1, none⟩ = w.cell? ⟨7, 1, none⟩ := fun o => World.cell?_alloc_lt w o _ g4
  have b1_ : ∀ o o', ((w.alloc o).alloc o').cell? ⟨7, 1, none⟩ = w.cell? ⟨7, 1, none⟩ := fun o o' => (World.cell?_alloc_lt _ o' _ (by rw [World.size_alloc]; show 7 < _; omega)).trans (a1_ o)
  have c1_ : ∀ o o' o'', (((w.alloc o).alloc o').alloc o'').cell? ⟨7, 1, none⟩ = w.cell? ⟨7, 1, none⟩ := fun o o' o'' => (World.cell?_alloc_lt _ o'' _ (by rw [World.size_alloc, World.size_alloc]; show 7 < _; omega)).trans (b1_ o o')
  have a2_ : ∀ o, (w.alloc o).cell? ⟨7, 2, none⟩ = w.cell? ⟨7, 2, none⟩ := fun o => World.cell?_alloc_lt w o _ g4
  have b2_ : ∀ o o', ((w.alloc o).alloc o').cell? ⟨7, 2, none⟩ = w.cell? ⟨7, 2, none⟩ := fun o o' => (World.cell?_alloc_lt _ o' _ (by rw [World.size_alloc]; show 7 < _; omega)).trans (a2_ o)
  have c2_ : ∀ o o' o'', (((w.alloc o).alloc o').alloc o'').cell? ⟨7, 2, none⟩ = w.cell? ⟨7, 2, none⟩ := fun o o' o'' => (World.cell?_alloc_lt _ o'' _ (by rw [World.size_alloc, World.size_alloc]; show 7 < _; omega)).trans (b2_ o o')
  have a3_ : ∀ o, (w.alloc o).cell? ⟨7, 3, none⟩ = w.cell? ⟨7, 3, none⟩ := fun o => World.cell?_alloc_lt w o _ g4
  have b3_ : ∀ o o', ((w.alloc o).alloc o').cell? ⟨7, 3, none⟩ = w.cell? ⟨7, 3, none⟩ := fun o o' => (World.cell?_alloc_lt _ o' _ (by rw [World.size_alloc]; show 7 < _; omega)).trans (a3_ o)
  have c3_ : ∀ o o' o'', (((w.alloc o).alloc o').alloc o'').cell? ⟨7, 3, none⟩ = w.cell? ⟨7, 3, none⟩ := fun o o' o'' => (World.cell?_alloc_lt _ o'' _ (by rw [World.size_alloc, World.size_alloc]; show 7 < _; omega)).trans (b3_ o o')
  obtain ⟨⟨l0, u0⟩, ⟨l1, u1⟩, ⟨l2, u2⟩, ⟨l3, u3⟩⟩ := ha
  go_enter Tryz.func164, Tryz.ntmps164
  go_wp2
  refine wp_loop_rounds 5 ?_
  rw [rounds_succ]
  go_wp2
  rw [rounds_succ]
  go_wp2
  rw [rounds_succ]
  go_wp2
  rw [rounds_succ]
  go_wp2
  rw [rounds_succ]
  go_wp2_with fail
  generalize bits .or .u64 (IntKind.wrap .u64 (a0 * 2)) bit = o0 at *
  generalize bits .or .u64 (IntKind.wrap .u64 (a1 * 2)) (a0 / 9223372036854775808) = o1 at *
  generalize bits .or .u64 (IntKind.wrap .u64 (a2 * 2)) (a1 / 9223372036854775808) = o2 at *
  generalize bits .or .u64 (IntKind.wrap .u64 (a3 * 2)) (a2 / 9223372036854775808) = o3 at *
  refine (less_c _ _ _ _ _ _ _ _ hO order_ok _).mono ?_
  rintro e w1 ⟨rfl, hb1⟩
  rw [val4_order]
  obtain ⟨hc1, hf1⟩ := bcell hb1
  have s1 := hb1.size
  simp only [World.size_alloc] at s1 hc1 hf1
  have z1 : w.heap.size + 1 < w1.heap.size := by omega
  have q0 : w1.cell? ⟨7, 0, none⟩ = some (.int .u64 6346243789798364141) := by rw [hc1 _ _ (by omega)]; go_simp
  have q1 : w1.cell? ⟨7, 1, none⟩ = some (.int .u64 1503914060200516822) := by rw [hc1 _ _ (by omega)]; go_simp
  have q2 : w1.cell? ⟨7, 2, none⟩ = some (.int .u64 0) := by rw [hc1 _ _ (by omega)]; go_simp
  have q3 : w1.cell? ⟨7, 3, none⟩ = some (.int .u64 1152921504606846976) := by rw [hc1 _ _ (by omega)]; go_simp
  by_cases hlt : val4 o0 o1 o2 o3 < LL
  · rw [show decide (val4 o0 o1 o2 o3 < LL) = true from decide_eq_true hlt]
    have HL := Lib.hid hlt
    clear hlt
    go_wp2
    refine bodyPost_ret (v := A4 o0 o1 o2 o3) (by simp only [results, Tryz.results164]; go_simp) rfl ⟨?_, ?_⟩
    · rw [A4_L4 _ _ _ _ hO, ← HV.out, Nat.mod_eq_of_lt HL.out]
    · exact bz
  · rw [show decide (val4 o0 o1 o2 o3 < LL) = false from decide_eq_false hlt]
    have HL := Lib.hid hlt
    clear hlt
    go_wp2_with (go_at_call 140; refine (sub_c _ _ _ _ _ _ _ _ hO order_ok _).mono ?_; rintro e w2 ⟨rfl, hb2⟩; obtain ⟨hc2, hf2⟩ := bcell hb2; have s2 := hb2.size; have z2 : w.heap.size + 1 < w2.heap.size := by omega)
    refine bodyPost_ret (v := L4 (dif4 (val4 o0 o1 o2 o3) LL)) (by simp only [results, Tryz.results164, ← val4_order]; go_simp) rfl ⟨?_, ?_⟩
    · rw [← HV.out, red_LL _ (by have := HV.out; have := HA.out; omega) HL.out]
    · exact bz

theorem sub_l (A B : Nat) (hA : A < P256) (hB : B < P256) (w : World) : Calls Tryz.prog 140 #[L4 A, L4 B] w fun e w' => Ret (.tuple #[L4 (dif4 A B), .int .u64 (brw A B)]) w w' e := by
  have h := sub_c _ _ _ _ _ _ _ _ (lim_U4 A) (lim_U4 B) w
  rw [val4_lim A hA, val4_lim B hB] at h; exact h
theorem less_l (A B : Nat) (hA : A < P256) (hB : B < P256) (w : World) : Calls Tryz.prog 139 #[L4 A, L4 B] w fun e w' => Ret (.bool (decide (A < B))) w w' e := by
  have h := less_c _ _ _ _ _ _ _ _ (lim_U4 A) (lim_U4 B) w
  rw [val4_lim A hA, val4_lim B hB] at h; exact h
theorem LL_lt : LL < P256 := by decide +kernel
/-- the order, as it lies in its variable -/
@[go_sem] def LV : Value := .agg #[.int .u64 6346243789798364141, .int .u64 1503914060200516822, .int .u64 0, .int .u64 1152921504606846976]
theorem LV_eq : LV = L4 LL := L4_order.symm
theorem subO (A : Nat) (hA : A < P256) (w : World) : Calls Tryz.prog 140 #[L4 A, LV] w fun e w' => Ret (.tuple #[L4 (dif4 A LL), .int .u64 (brw A LL)]) w w' e := by rw [LV_eq]; exact sub_l A LL hA LL_lt w
theorem lessO (A : Nat) (hA : A < P256) (w : World) : Calls Tryz.prog 139 #[L4 A, LV] w fun e w' => Ret (.bool (decide (A < LL))) w w' e := by rw [LV_eq]; exact less_l A LL hA LL_lt w
end Go.Proofs.YtejkmhgkkibafaaGreatDoor.S8.Sc

namespace Go.Proofs.YtejkmhgkkibafaaGreatDoor.S8.Sc
set_option maxHeartbeats 2000000
set_option maxRecDepth 100000
open Go.RowKit

theorem wval_bit (ws : Nat → Int) : ∀ n q r, q < n → r < 64 → (∀ j, j < n → u64ok (ws j)) → wval ws n / 2 ^ (64 * q + r) % 2 = (ws q).toNat / 2 ^ r % 2
  | 0, _, _, h, _, _ => by omega
  | n + 1, q, r, h, hr, hw => by
    show (wval ws n + (ws n).toNat * 2 ^ (64 * n)) / 2 ^ (64 * q + r) % 2 = _
    by_cases hq : q = n
    · subst hq
      have hl := wval_lt ws q (fun j hj => hw j (by omega))
      rw [Nat.pow_add, ← Nat.div_div_eq_div_mul, Nat.add_mul_div_right _ _ (Nat.two_pow_pos _), Nat.div_eq_of_lt hl, Nat.zero_add]
    · have ih := wval_bit ws n q r (by omega) hr (fun j hj => hw j (by omega))
      obtain ⟨d, hd⟩ : ∃ d, 64 * n = (64 * q + r) + (1 + d) := ⟨64 * n - (64 * q + r) - 1, by omega⟩
      rw [hd, Nat.pow_add 2 (64 * q + r), Nat.mul_left_comm, Nat.add_mul_div_left _ _ (Nat.two_pow_pos _), Nat.pow_add 2 1 d, Nat.mul_left_comm, Nat.pow_one, Nat.add_mul_mod_self_left]
      exact ih
theorem word_bit (ws : Nat → Int) (n q r : Nat) (hq : q < n) (hr : r < 64) (hw : ∀ j, j < n → u64ok (ws j)) :
    (0 ≤ bits .and .u64 (ws q / 2 ^ r) 1 ∧ bits .and .u64 (ws q / 2 ^ r) 1 ≤ 1) ∧ (bits .and .u64 (ws q / 2 ^ r) 1).toNat = wval ws n / 2 ^ (64 * q + r) % 2 := by
  have hb := wval_bit ws n q r hq hr hw
  obtain ⟨x0, x1⟩ := hw q hq
  obtain ⟨X, hX⟩ := Int.eq_ofNat_of_zero_le x0
  rw [hX] at hb x1 ⊢
  rw [Int.toNat_natCast] at hb
  have e : ((X : Int) / 2 ^ r) = ((X / 2 ^ r : Nat) : Int) := by push_cast; rfl
  have hl : X / 2 ^ r ≤ X := Nat.div_le_self _ _
  have e2 : bits .and .u64 (((X / 2 ^ r : Nat) : Int)) ((1 : Nat) : Int) = ((X / 2 ^ r % 2 : Nat) : Int) := by
    rw [bits_and_u64_nat _ _ (by omega) (by omega), Nat.and_one_is_mod]
  rw [e]
  have e3 : bits .and .u64 (((X / 2 ^ r : Nat) : Int)) 1 = ((X / 2 ^ r % 2 : Nat) : Int) := e2
  rw [e3, hb]
  omega
theorem bit_step (V K : Nat) : (2 * (V / 2 ^ (K + 1) % LL) + V / 2 ^ K % 2) % LL = V / 2 ^ K % LL := by
  have e : V / 2 ^ K = 2 * (V / 2 ^ (K + 1)) + V / 2 ^ K % 2 := by
    rw [Nat.pow_succ, ← Nat.div_div_eq_div_mul]; omega
  have h1 : (2 * (V / 2 ^ (K + 1) % LL) + V / 2 ^ K % 2) % LL = (2 * (V / 2 ^ (K + 1)) + V / 2 ^ K % 2) % LL := by
    rw [Nat.add_mod, Nat.mul_mod, Nat.mod_mod, ← Nat.mul_mod, ← Nat.add_mod]
  rw [h1, ← e]
theorem lt_256 (x : Nat) : x % LL < 115792089237316195423570985008687907853269984665640564039457584007913129639936 :=
  Nat.lt_trans (Nat.mod_lt _ (by decide)) (by decide)
theorem fold_c (ws : Nat → Int) (b off len cap : Nat) (w : World) (hG : GL w) (hlen : len ≤ 100) (hws : ∀ j, j < len → u64ok (ws j))
    (hc : ∀ j, j < len → w.cell? ⟨b, off + j, none⟩ = some (.int .u64 (ws j))) (hb : b < w.heap.size) :
    Calls Tryz.prog 133 #[.slice (some ⟨b, off, none⟩) len cap] w fun e w' => Ret (L4 (wval ws len % LL)) w w' e := by
  go_enter Tryz.func133, Tryz.ntmps133
  go_wp2
  go_loopw [4] (fun i wr => ∃ k : Nat, k ≤ 64 * len ∧ i = .int .i64 ((k : Int) - 1) ∧ Below w.heap.size w wr ∧
      Blk wr w.heap.size #[.int .u64 0, .int .u64 0, .int .u64 0, .int .u64 0] 153 ∧
      Blk wr (w.heap.size + 1) #[.int .u64 (lim (wval ws len / 2 ^ k % LL) 0), .int .u64 (lim (wval ws len / 2 ^ k % LL) 1), .int .u64 (lim (wval ws len / 2 ^ k % LL) 2), .int .u64 (lim (wval ws len / 2 ^ k % LL) 3)] 153)
    (fun i _ => (intOf i + 1).toNat)
  case atStart =>
    refine ⟨64 * len, Nat.le_refl _, ?_, ?_, ?_, ?_⟩
    · congr 1; omega
    · exact bz
    · exact blk_alloc (blk_new _ _ rfl) _
    · rw [Nat.div_eq_of_lt (wval_lt ws len hws)]
      exact blk_new _ _ (by simp)
  case round =>
    obtain ⟨k, hk, rfl, hbel, hB0, hB1⟩ := hrel
    by_cases hk0 : k = 0
    · subst hk0
      have hc1 := blk_cell hB1
      have hf1 := blk_free hB1
      have hc0 := blk_cell hB0
      have hf0 := blk_free hB0
      go_wp2
      refine bodyPost_ret (v := L4 (wval ws len % LL)) (by simp only [results, Tryz.results133]; go_simp) rfl ⟨rfl, ?_⟩
      exact bz
    · obtain ⟨q, r, hr, rfl⟩ : ∃ q r, r < 64 ∧ k = 64 * q + r + 1 := ⟨(k - 1) / 64, (k - 1) % 64, by omega, by omega⟩
      have e1 : ((64 * q + r + 1 : Nat) : Int) - 1 = 64 * (q : Int) + (r : Int) := by omega
      rw [e1]
      clear hk0 e1
      have hcell := (hbel.cell (p := ⟨b, off + q, none⟩) hb).trans (hc q (by omega))
      have w1 : IntKind.i64.wrap ((64 * (q : Int) + (r : Int)).tdiv 64) = (q : Int) := by rw [Int.tdiv_eq_ediv_of_nonneg (by omega), IntWalk.i64_in _ (by omega)]; omega
      have w2 : (64 * (q : Int) + (r : Int)).tmod 64 = (r : Int) := by rw [Int.tmod_eq_emod_of_nonneg (by omega)]; omega
      have hr0 : 0 ≤ (r : Int) := by omega
      have hq0 : (0 : Int) ≤ 64 * (q : Int) + (r : Int) := by omega
      have hq1 : (q : Int) < (len : Int) := by omega
      have hr1 : (r : Int) < 64 := by omega
      have hc1 := blk_cell hB1
      have hf1 := blk_free hB1
      go_wp2
      go_still_tail 10, (by kernel_rfl)
      change wpList _ _ _ _ _ wr.drew
      obtain ⟨hB, hbt⟩ := word_bit ws len q r (by omega) hr hws
      generalize bits .and .u64 (ws q / 2 ^ r) 1 = bt at *
      have HB := Lib.hid hbt
      clear hbt hcell w1 w2
      have HT := twice_c _ _ _ _ bt (lim_U4 (wval ws len / 2 ^ (64 * q + r + 1) % LL)) hB.1 hB.2 (by rw [val4_lim _ (lt_256 _)]; exact Nat.mod_lt _ (by decide)) wr.drew (GL_below (hG) hbel.drew (by have := hG.2.2.2.2; omega))
      go_wp2_with (go_at_call 164; refine HT.mono ?_; rintro e w3 ⟨rfl, hb3⟩; have hc3 := blk_cell (blk_step (blk_drew hB1) hb3); have hf3 := blk_free (blk_step (blk_drew hB1) hb3))
      rw [val4_lim _ (lt_256 _), HB.out, bit_step]
      have off0.size := hbel.size
      have sz3 := hb3.size
      go_roundw
      case rel =>
        refine ⟨64 * q + r, by omega, by go_num, ?_, blk_other4 (blk_step (blk_drew hB0) hb3) (by omega) _ _ _ _, blk_set4 (blk_step (blk_drew hB1) hb3) _ _ _ _⟩
        exact bz
      case measure => simp [intOf]; omega
end Go.Proofs.YtejkmhgkkibafaaGreatDoor.S8.Sc

namespace Go.Proofs.YtejkmhgkkibafaaGreatDoor.S8.Sc
set_option maxHeartbeats 2000000
set_option maxRecDepth 100000
open Go.RowKit

theorem bytes_c (V : Nat) (hV : V < 115792089237316195423570985008687907853269984665640564039457584007913129639936) (w : World) (hG : GL w) :
    Calls Tryz.prog 91 #[L4 V] w fun e w' => Ret (.agg (arrK .u8 32 (byt (V % LL)))) w w' e := by
  go_enter Tryz.func91, Tryz.ntmps91
  go_wp2_with fail
  refine (fold_c (lim V) _ _ _ _ _ ?_ (by omega) (fun j _ => lim_ok V j) ?_ (by simp only [World.size_alloc]; omega)).mono ?_
  · exact GL_below hG (B := w.heap.size) (((Below.refl _ _).alloc (Nat.le_refl _) _).alloc (by simp) _) hG.2.2.2.2
  · intro j hj
    have h4 : j = 0 ∨ j = 1 ∨ j = 2 ∨ j = 3 := by omega
    refine (blk_cell (blk_alloc (blk_new #[.int .u64 (lim V 0), .int .u64 (lim V 1), .int .u64 (lim V 2), .int .u64 (lim V 3)] 153 rfl) _) _).trans ?_
    rcases h4 with rfl | rfl | rfl | rfl <;> rfl
  rintro e w1 ⟨rfl, hb1⟩
  have b0 : Blk w1 w.heap.size #[.int .u64 (lim V 0), .int .u64 (lim V 1), .int .u64 (lim V 2), .int .u64 (lim V 3)] 153 := blk_step (blk_alloc (blk_new _ _ rfl) _) hb1
  have b1 : Blk w1 (w.heap.size + 1) (arrK .u8 32 fun _ => 0) 23 := blk_step (blk_new _ _ (by simp)) hb1
  have s1 := hb1.size
  simp only [World.size_alloc] at s1
  rw [wval_lim4 V hV]
  generalize hN : V % LL = N
  have HN := Lib.hid hN
  clear hN
  have c0 := blk_cell b0
  have f0 := blk_free b0
  go_wp2
  go_loopw [7] (fun i wr => ∃ k : Nat, k ≤ 32 ∧ i = .int .i64 k ∧ Below w.heap.size w wr ∧
      Blk wr w.heap.size #[.int .u64 (lim N 0), .int .u64 (lim N 1), .int .u64 (lim N 2), .int .u64 (lim N 3)] 153 ∧
      Blk wr (w.heap.size + 1) (arrK .u8 32 fun _ => 0) 23 ∧
      Blk wr w1.heap.size (arrK .u8 32 fun j => if j < k then byt N j else 0) 23)
    (fun i _ => (32 - intOf i).toNat)
  case atStart =>
    refine ⟨0, by omega, rfl, ?_, blk_alloc (blk_set4 b0 _ _ _ _) _, blk_alloc (blk_other4 b1 (by omega) _ _ _ _) _, ?_⟩
    · exact bz
    · exact blk_new _ _ (by simp)
  case round =>
    obtain ⟨k, hk, rfl, hbel, hB0, hB1, hB3⟩ := hrel
    by_cases hk0 : k = 32
    · subst hk0
      go_wp2_with (first | (refine wpList_load_row rfl 23 (.tmp 3) rfl w1.heap.size rfl _ _ _ _ hB3 Tryz.underlying23 rfl (by kernel_rfl) ?_) | (refine wpList_store_row rfl 23 (.tmp 2) (.tmp 22) rfl (w.heap.size + 1) _ rfl rfl 23 _ hB1 (by kernel_rfl) (by kernel_rfl) (arrK_one _ _ _) ?_))
      refine bodyPost_ret (results_cell_row rfl _ _ (w.heap.size + 1) _ _ _ _ rfl (blk_setRow hB1 _) Tryz.underlying23 rfl (by kernel_rfl)) rfl ⟨?_, below_setRow hbel (by omega) _⟩
      rw [arrK_congr _ _ _ (byt N) (fun i hi => if_pos hi), HN.out]
    · obtain ⟨q, r, hr, rfl⟩ : ∃ q r, r < 8 ∧ k = 8 * q + r := ⟨k / 8, k % 8, by omega, by omega⟩
      have d1 : (8 * (q : Int) + (r : Int)) / 8 = (q : Int) := by omega
      have d2 : (8 * (q : Int) + (r : Int)) % 8 = (r : Int) := by omega
      have hq1 : (q : Int) < 4 := by omega
      have hr1 : (r : Int) < 8 := by omega
      have c0 := (blk_cell hB0 q).trans (show _ = some (.int .u64 (lim N q)) by (have : q = 0 ∨ q = 1 ∨ q = 2 ∨ q = 3 := by omega); rcases this with rfl | rfl | rfl | rfl <;> rfl)
      have c3 := blk_cell hB3 (8 * q + r)
      rw [arrK_get _ _ _ _ (by omega)] at c3
      have f3 := blk_free hB3
      go_wp2
      have off0.size := hbel.size
      have sz1 := blk_lt hB3
      go_roundw
      case rel =>
        refine ⟨8 * q + r + 1, by omega, by go_num, ?_, blk_other hB0 (by omega) _ _, blk_other hB1 (by omega) _ _, ?_⟩
        · exact bz
        · have hs := blk_set hB3 (8 * q + r) (.int .u8 (lim N q / 2 ^ (8 * r) % 256))
          rw [arrK_set] at hs
          rw [arrK_congr _ _ _ _ (fun j hj => ?_)]
          · exact hs
          · have hby := lim_byt N (8 * q + r)
            rw [show (8 * q + r) / 8 = q by omega, show (8 * q + r) % 8 = r by omega] at hby
            unfold upd
            rw [hby]
            dsimp only
            by_cases h1 : j = 8 * q + r
            · subst h1; rw [if_pos (by omega), if_pos rfl]
            · rw [if_neg h1]
              by_cases h2 : j < 8 * q + r
              · rw [if_pos h2, if_pos (by omega)]
              · rw [if_neg h2, if_neg (by omega)]
      case measure => simp [intOf]; omega
end Go.Proofs.YtejkmhgkkibafaaGreatDoor.S8.Sc

namespace Go.Proofs.YtejkmhgkkibafaaGreatDoor.S8.Sc
set_option maxHeartbeats 2000000
set_option maxRecDepth 100000
open Go.RowKit

theorem fold4_c (V b : Nat) (hV : V < P256) (w : World) (hG : GL w) (hB : Blk w b (c4 V) 153) :
    Calls Tryz.prog 133 #[.slice (some ⟨b, 0, none⟩) 4 4] w fun e w' => Ret (L4 (V % LL)) w w' e := by
  have h := fold_c (lim V) b 0 4 4 w hG (by omega) (fun j _ => lim_ok V j) (fun j hj => by
    have h4 : j = 0 ∨ j = 1 ∨ j = 2 ∨ j = 3 := by omega
    refine (blk_cell hB _).trans ?_
    rcases h4 with rfl | rfl | rfl | rfl <;> rfl) (blk_lt hB)
  rw [wval_lim4 V hV] at h
  exact h
theorem GL_step {w w' : World} (h : GL w) (hb : Below w.heap.size w w') : GL w' := GL_below h hb h.2.2.2.2
theorem add_c (A B : Nat) (hA : A < P256) (hB : B < P256) (w : World) (hG : GL w) :
    Calls Tryz.prog 93 #[L4 A, L4 B] w fun e w' => Ret (L4 ((A + B) % LL)) w w' e := by
  have HG := Lib.hid hG
  clear hG
  go_enter Tryz.func93, Tryz.ntmps93
  go_wp2
  refine wp_world (fun W => Below w.heap.size w W ∧ w.heap.size + 2 < W.heap.size ∧ Blk W w.heap.size (c4 A) 153 ∧ Blk W (w.heap.size + 1) (c4 B) 153 ∧ Blk W (w.heap.size + 2) #[.int .u64 0, .int .u64 0, .int .u64 0, .int .u64 0] 153)
    ⟨bz, by simp, blk_alloc (blk_alloc (blk_new _ _ rfl) _) _, blk_alloc (blk_new _ _ (by simp)) _, blk_new _ _ (by simp)⟩ ?_
  rintro W ⟨hbel, hsz, b2, b3, b4⟩
  have HGW : Hid (GL W.drew) := Lib.hid (GL_below HG.out hbel.drew HG.out.2.2.2.2)
  have b2 := blk_drew b2
  have b3 := blk_drew b3
  go_region_with (first
    | (go_at_call 133; (with_reducible refine (fold4_c A w.heap.size hA _ HGW.out b2).mono ?_); rintro e w1 ⟨rfl, hb1⟩; have b21 := blk_step b2 hb1; have b31 := blk_step b3 hb1)
    | (go_at_call 133; (with_reducible refine (fold4_c B (w.heap.size + 1) hB _ (GL_step HGW.out hb1) b31).mono ?_); rintro e w2 ⟨rfl, hb2⟩; have c22 := blk_cell (blk_step b21 hb2); have f22 := blk_free (blk_step b21 hb2); have c32 := blk_cell (blk_step b31 hb2); have f32 := blk_free (blk_step b31 hb2)))
  clear c22 f22 c32 f32
  have b22 := blk_step b21 hb2
  have b32 := blk_step b31 hb2
  have b42 := blk_step (blk_step (blk_drew b4) hb1) hb2
  have s1 := hb1.size
  have s2 := hb2.size
  simp only [World.size_drew] at s1
  have hw2 : Below w.heap.size w w2 := below_step (below_step hbel.drew hb1 (by simp only [World.size_drew]; omega)) hb2 (by omega)
  have hne : w.heap.size + 2 < w2.heap.size := by omega
  clear hb1 hb2 b21 b31 b2 b3 b4 HGW s1 s2
  refine ex_world (fun W => Below w.heap.size w W ∧ w.heap.size + 2 < W.heap.size ∧ Blk W w.heap.size (c4 (A % LL)) 153 ∧ Blk W (w.heap.size + 1) (c4 (B % LL)) 153 ∧ Blk W (w.heap.size + 2) #[.int .u64 0, .int .u64 0, .int .u64 0, .int .u64 0] 153)
    ⟨bz, by simpa using hne, blk_other4 (blk_set4 b22 _ _ _ _) (by omega) _ _ _ _, blk_set4 (blk_other4 b32 (by omega) _ _ _ _) _ _ _ _, blk_other4 (blk_other4 b42 (by omega) _ _ _ _) (by omega) _ _ _ _⟩ ?_
  clear hw2 b22 b32 b42 hbel hsz hne
  rintro X ⟨hbel, hsz, b2, b3, b4⟩
  have HGX := Lib.hid (GL_below HG.out hbel HG.out.2.2.2.2)
  have hlA := lim_U4 (A % LL)
  have hlB := lim_U4 (B % LL)
  have hch := add_chain _ _ _ _ _ _ _ _ 0 hlA hlB (by omega) (by omega)
  have q0 := adC_b _ _ 0 hlA.1 hlB.1 (by omega) (by omega)
  have q1 := adC_b _ _ _ hlA.2.1 hlB.2.1 q0.1 q0.2
  have q2 := adC_b _ _ _ hlA.2.2.1 hlB.2.2.1 q1.1 q1.2
  have h0 := add64_run _ _ 0 hlA.1 hlB.1 (by omega) (by omega)
  have h1 := add64_run _ _ _ hlA.2.1 hlB.2.1 q0.1 q0.2
  have h2 := add64_run _ _ _ hlA.2.2.1 hlB.2.2.1 q1.1 q1.2
  have h3 := add64_run _ _ _ hlA.2.2.2 hlB.2.2.2 q2.1 q2.2
  obtain ⟨e0, e1, e2, e3⟩ := A4_inj hch.1
  rw [e0] at h0
  rw [e1] at h1
  rw [e2] at h2
  rw [e3] at h3
  clear hch q0 q1 q2 hlA hlB e0 e1 e2 e3
  have hS : (A % LL + B % LL + (0 : Int).toNat) % 115792089237316195423570985008687907853269984665640564039457584007913129639936 = A % LL + B % LL := by
    have := Nat.mod_lt A (show 0 < LL by decide)
    have := Nat.mod_lt B (show 0 < LL by decide)
    unfold LL at *
    omega
  rw [val4_lim _ (lt_256 A), val4_lim _ (lt_256 B), hS] at h0 h1 h2 h3
  have hS2 : A % LL + B % LL < 2 * LL := by
    have := Nat.mod_lt A (show 0 < LL by decide)
    have := Nat.mod_lt B (show 0 < LL by decide)
    omega
  have hS3 : (A % LL + B % LL) % LL = (A + B) % LL := by rw [← Nat.add_mod]
  generalize A % LL + B % LL = S at *
  have HS := Lib.hid hS2
  have HS3 := Lib.hid hS3
  clear hS hS2 hS3
  have x2 := blk_cell b2
  have x3 := blk_cell b3
  obtain ⟨g0, g1, g2, g3, g4⟩ := HGX.out
  have n1 : w.heap.size < X.heap.size := by omega
  have n2 : w.heap.size + 1 < X.heap.size := by omega
  go_wp2
  refine wp_loop_rounds 5 ?_
  rw [rounds_succ]
  go_wp2
  go_region
  go_wp2
  rw [rounds_succ]
  go_wp2
  go_region
  go_wp2
  rw [rounds_succ]
  go_wp2
  go_region
  go_wp2
  rw [rounds_succ]
  go_wp2
  go_region
  go_wp2
  rw [rounds_succ]
  go_wp2_with fail
  have hS4 : S < P256 := by have := HS.out; unfold LL at this; unfold P256; omega
  refine (lessO S hS4 _).mono ?_
  rintro e w3 ⟨rfl, hb3⟩
  have b23 := blk_step (blk_drew (blk_drew (blk_drew (blk_drew (blk_alloc b4 _))))) hb3
  have b53 : Blk w3 X.heap.size (c4 S) 153 := blk_step (blk_drew (blk_drew (blk_drew (blk_drew (blk_new _ _ rfl))))) hb3
  have s3 := hb3.size
  simp only [World.size_drew, World.size_alloc] at s3
  have hX3 : Below w.heap.size w w3 := below_step bz hb3 (by simp only [World.size_drew, World.size_alloc]; omega)
  have HG3 := Lib.hid (GL_below HG.out hX3 HG.out.2.2.2.2)
  clear b2 b3 b4 hbel x2 x3 h0 h1 h2 h3 hb3 g0 g1 g2 g3 g4 HGX
  have z2 := blk_cell b23
  have t2 := blk_free b23
  have z5 := blk_cell b53
  obtain ⟨g0, g1, g2, g3, g4⟩ := HG3.out
  by_cases hlt : S < LL
  · rw [show decide (S < LL) = true from decide_eq_true hlt]
    have HL := Lib.hid hlt
    clear hlt
    go_wp2
    refine bodyPost_ret (v := L4 S) (by simp only [results, Tryz.results93]; go_simp) rfl ⟨?_, ?_⟩
    · rw [← HS3.out, Nat.mod_eq_of_lt HL.out]
    · exact bz
  · rw [show decide (S < LL) = false from decide_eq_false hlt]
    have HL := Lib.hid hlt
    clear hlt
    go_wp2_with (go_at_call 140; refine (subO S hS4 _).mono ?_; rintro e w4 ⟨rfl, hb4⟩; have z24 := blk_cell (blk_step b23 hb4); have t24 := blk_free (blk_step b23 hb4); have s4 := hb4.size; have n4 : w.heap.size + 2 < w4.heap.size := by omega)
    refine bodyPost_ret (v := L4 (dif4 S LL)) (by simp only [results, Tryz.results93]; go_simp) rfl ⟨?_, ?_⟩
    · rw [← HS3.out, red_LL _ HS.out HL.out]
    · exact bz
end Go.Proofs.YtejkmhgkkibafaaGreatDoor.S8.Sc
