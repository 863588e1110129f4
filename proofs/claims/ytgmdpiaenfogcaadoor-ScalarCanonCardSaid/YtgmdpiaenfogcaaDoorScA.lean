/- The walks of scalar.Num.sub, less, twice and Order, each once. Conditions: words of 64 bits; the cells of scalar.order hold the order. -/
import Derived.Test.YtgmdpiaenfogcaaDoorCarry
import Derived.Deep.QuietTactic
import Derived.BigQuiet
import Derived.BigRegion
import Derived.Lib.Hide
namespace Go.Proofs.YtgmdpiaenfogcaaDoor
open Go.RowKit

def LL : Nat := 7237005577332262213973186563042994240857116359379907606001950938285454250989
/-- the order's cells -/
def GL (w : World) : Prop := w.cell? ⟨0, 0, none⟩ = some (.int .u64 6346243789798364141) ∧ w.cell? ⟨0, 1, none⟩ = some (.int .u64 1503914060200516822) ∧ w.cell? ⟨0, 2, none⟩ = some (.int .u64 0) ∧ w.cell? ⟨0, 3, none⟩ = some (.int .u64 1152921504606846976) ∧ 0 < w.heap.size
theorem GL_below {B : Nat} {w w' : World} (h : GL w) (hb : Below B w w') (hB : 0 < B) : GL w' := by
  obtain ⟨h0, h1, h2, h3, h4⟩ := h
  refine ⟨?_, ?_, ?_, ?_, Nat.lt_of_lt_of_le h4 hb.size⟩
  · rw [hb.cell (p := ⟨0, 0, none⟩) hB]; exact h0
  · rw [hb.cell (p := ⟨0, 1, none⟩) hB]; exact h1
  · rw [hb.cell (p := ⟨0, 2, none⟩) hB]; exact h2
  · rw [hb.cell (p := ⟨0, 3, none⟩) hB]; exact h3

set_option maxHeartbeats 1000000 in
theorem sub_c (a0 a1 a2 a3 b0 b1 b2 b3 : Int) (ha : U4 a0 a1 a2 a3) (hb : U4 b0 b1 b2 b3) (w : World) :
    Calls Tryd.prog 30 #[A4 a0 a1 a2 a3, A4 b0 b1 b2 b3] w fun e w' =>
      Ret (.tuple #[L4 (dif4 (val4 a0 a1 a2 a3) (val4 b0 b1 b2 b3)), .int .u64 (brw (val4 a0 a1 a2 a3) (val4 b0 b1 b2 b3))]) w w' e := by
  have hch := sub_chain a0 a1 a2 a3 b0 b1 b2 b3 ha hb
  have HC := Lib.hid hch
  clear hch
  have h0 := sub64_run a0 b0 0 ha.1 hb.1 (by omega) (by omega)
  have h1 := sub64_run a1 b1 _ ha.2.1 hb.2.1 (sbB_b a0 b0 0).1 (sbB_b a0 b0 0).2
  have h2 := sub64_run a2 b2 _ ha.2.2.1 hb.2.2.1 (sbB_b a1 b1 (sbB a0 b0 0)).1 (sbB_b a1 b1 (sbB a0 b0 0)).2
  have h3 := sub64_run a3 b3 _ ha.2.2.2 hb.2.2.2 (sbB_b a2 b2 (sbB a1 b1 (sbB a0 b0 0))).1 (sbB_b a2 b2 (sbB a1 b1 (sbB a0 b0 0))).2
  clear ha hb
  go_enter Tryd.func30, Tryd.ntmps30
  go_wp2
  refine wp_loop_rounds 5 ?_
  rw [rounds_succ]
  go_wp2
  go_region
  go_wp2
  rw [rounds_succ]
  go_wp2
  go_region
  go_wp2
  rw [rounds_succ]
  go_wp2
  go_region
  go_wp2
  rw [rounds_succ]
  go_wp2
  go_region
  go_wp2
  rw [rounds_succ]
  go_wp2
  refine bodyPost_ret (v := .tuple #[A4 (sbD a0 b0 0) (sbD a1 b1 (sbB a0 b0 0)) (sbD a2 b2 (sbB a1 b1 (sbB a0 b0 0))) (sbD a3 b3 (sbB a2 b2 (sbB a1 b1 (sbB a0 b0 0)))), .int .u64 (sbB a3 b3 (sbB a2 b2 (sbB a1 b1 (sbB a0 b0 0))))]) (by simp [results, Tryd.results30, go_sem]) rfl ⟨?_, ?_⟩
  · rw [HC.out.1, HC.out.2]
  · (repeat' (first | (with_reducible assumption) | (with_reducible exact Below.refl _ _) | (with_reducible refine Below.drew ?_) | (with_reducible refine Below.alloc ?_ ?_ _) | (with_reducible refine below_set ?_ ?_ _ _) | (with_reducible refine below_setRow ?_ ?_ _) | (with_reducible refine below_step ?_ (by assumption) ?_))) <;> (first | omega | ((try simp only [World.size_alloc, World.size_setCell, World.size_drew, size_setRow]); omega))

set_option maxHeartbeats 1000000 in
theorem less_c (a0 a1 a2 a3 b0 b1 b2 b3 : Int) (ha : U4 a0 a1 a2 a3) (hb : U4 b0 b1 b2 b3) (w : World) :
    Calls Tryd.prog 27 #[A4 a0 a1 a2 a3, A4 b0 b1 b2 b3] w fun e w' =>
      Ret (.bool (decide (val4 a0 a1 a2 a3 < val4 b0 b1 b2 b3))) w w' e := by
  go_enter Tryd.func27, Tryd.ntmps27
  go_wp2_with (go_at_call 30; refine (sub_c _ _ _ _ _ _ _ _ ha hb _).mono ?_; rintro e w1 ⟨rfl, hb1⟩)
  go_ret
  refine ⟨?_, ?_⟩
  · unfold brw; split <;> simp [*]
  · have s1 := hb1.size
    simp only [World.size_alloc] at s1
    (repeat' (first | (with_reducible assumption) | (with_reducible exact Below.refl _ _) | (with_reducible refine Below.drew ?_) | (with_reducible refine Below.alloc ?_ ?_ _) | (with_reducible refine below_set ?_ ?_ _ _) | (with_reducible refine below_setRow ?_ ?_ _) | (with_reducible refine below_step ?_ (by assumption) ?_))) <;> (first | omega | ((try simp only [World.size_alloc, World.size_setCell, World.size_drew, size_setRow]); omega))

theorem order_ok : U4 6346243789798364141 1503914060200516822 0 1152921504606846976 := by simp [U4, u64ok]
theorem val4_order : val4 6346243789798364141 1503914060200516822 0 1152921504606846976 = LL := by decide +kernel
theorem L4_order : L4 LL = A4 6346243789798364141 1503914060200516822 0 1152921504606846976 := by rw [A4_L4 _ _ _ _ order_ok, val4_order]

theorem order_c (w : World) (hG : GL w) :
    Calls Tryd.prog 23 #[] w fun e w' => Ret (L4 LL) w w' e := by
  rw [L4_order]
  obtain ⟨g0, g1, g2, g3, g4⟩ := hG
  go_enter Tryd.func23, Tryd.ntmps23
  go_wp2
  refine bodyPost_ret (v := A4 6346243789798364141 1503914060200516822 0 1152921504606846976) (by simp [results, Tryd.results23, go_sem]) rfl ⟨rfl, ?_⟩
  exact (Below.refl _ _).alloc (Nat.le_refl _) _

theorem twice_lims (a0 a1 a2 a3 bit : Int) (ha : U4 a0 a1 a2 a3) (hb0 : 0 ≤ bit) (hb1 : bit ≤ 1) (hA : val4 a0 a1 a2 a3 < LL) :
    U4 (bits .or .u64 (IntKind.wrap .u64 (a0 * 2)) bit) (bits .or .u64 (IntKind.wrap .u64 (a1 * 2)) (a0 / 9223372036854775808)) (bits .or .u64 (IntKind.wrap .u64 (a2 * 2)) (a1 / 9223372036854775808)) (bits .or .u64 (IntKind.wrap .u64 (a3 * 2)) (a2 / 9223372036854775808)) ∧
    val4 (bits .or .u64 (IntKind.wrap .u64 (a0 * 2)) bit) (bits .or .u64 (IntKind.wrap .u64 (a1 * 2)) (a0 / 9223372036854775808)) (bits .or .u64 (IntKind.wrap .u64 (a2 * 2)) (a1 / 9223372036854775808)) (bits .or .u64 (IntKind.wrap .u64 (a3 * 2)) (a2 / 9223372036854775808)) = 2 * val4 a0 a1 a2 a3 + bit.toNat := by
  obtain ⟨h0, h1, h2, h3⟩ := ha
  rw [shl1_or a0 bit h0 hb0 hb1, shl1_or a1 _ h1 (by unfold u64ok at h0; omega) (by unfold u64ok at h0; omega), shl1_or a2 _ h2 (by unfold u64ok at h1; omega) (by unfold u64ok at h1; omega), shl1_or a3 _ h3 (by unfold u64ok at h2; omega) (by unfold u64ok at h2; omega)]
  have hu : U4 (a0 * 2 % 18446744073709551616 + bit) (a1 * 2 % 18446744073709551616 + a0 / 9223372036854775808) (a2 * 2 % 18446744073709551616 + a1 / 9223372036854775808) (a3 * 2 % 18446744073709551616 + a2 / 9223372036854775808) := by
    unfold U4 u64ok at *; omega
  refine ⟨hu, ?_⟩
  have i1 := val4_int _ _ _ _ hu
  have i2 := val4_int _ _ _ _ ⟨h0, h1, h2, h3⟩
  have h3' : a3 < 1152921504606846977 := by
    have : (val4 a0 a1 a2 a3 : Int) < LL := by exact_mod_cast hA
    rw [i2] at this
    unfold LL u64ok at *
    omega
  generalize val4 (a0 * 2 % 18446744073709551616 + bit) (a1 * 2 % 18446744073709551616 + a0 / 9223372036854775808) (a2 * 2 % 18446744073709551616 + a1 / 9223372036854775808) (a3 * 2 % 18446744073709551616 + a2 / 9223372036854775808) = X at *
  generalize val4 a0 a1 a2 a3 = A at *
  clear hA hu
  unfold u64ok at *
  omega

theorem red_LL (x : Nat) (h : x < 2 * LL) (hx : ¬ x < LL) : dif4 x LL = x % LL := by
  have e : x % LL = x - LL := by rw [Nat.mod_eq_sub_mod (by omega), Nat.mod_eq_of_lt (by omega)]
  rw [e]; unfold dif4 LL at *; omega

set_option maxHeartbeats 2000000 in
theorem twice_c (a0 a1 a2 a3 bit : Int) (ha : U4 a0 a1 a2 a3) (hb0 : 0 ≤ bit) (hb1 : bit ≤ 1) (hA : val4 a0 a1 a2 a3 < LL) (w : World) (hG : GL w) :
    Calls Tryd.prog 32 #[A4 a0 a1 a2 a3, .int .u64 bit] w fun e w' =>
      Ret (L4 ((2 * val4 a0 a1 a2 a3 + bit.toNat) % LL)) w w' e := by
  obtain ⟨hO, hV⟩ := twice_lims a0 a1 a2 a3 bit ha hb0 hb1 hA
  have HV := Lib.hid hV
  have HA := Lib.hid hA
  clear hV hA
  have HG := Lib.hid hG
  obtain ⟨g0, g1, g2, g3, g4⟩ := hG
  obtain ⟨⟨l0, u0⟩, ⟨l1, u1⟩, ⟨l2, u2⟩, ⟨l3, u3⟩⟩ := ha
  go_enter Tryd.func32, Tryd.ntmps32
  go_wp2
  refine wp_loop_rounds 5 ?_
  rw [rounds_succ]
  go_wp2
  rw [rounds_succ]
  go_wp2
  rw [rounds_succ]
  go_wp2
  rw [rounds_succ]
  go_wp2
  rw [rounds_succ]
  go_wp2_with fail
  generalize bits .or .u64 (IntKind.wrap .u64 (a0 * 2)) bit = o0 at *
  generalize bits .or .u64 (IntKind.wrap .u64 (a1 * 2)) (a0 / 9223372036854775808) = o1 at *
  generalize bits .or .u64 (IntKind.wrap .u64 (a2 * 2)) (a1 / 9223372036854775808) = o2 at *
  generalize bits .or .u64 (IntKind.wrap .u64 (a3 * 2)) (a2 / 9223372036854775808) = o3 at *
  refine (less_c _ _ _ _ _ _ _ _ hO order_ok _).mono ?_
  rintro e w1 ⟨rfl, hb1⟩
  rw [val4_order]
  obtain ⟨hc1, hf1⟩ := bcell hb1
  have s1 := hb1.size
  simp only [World.size_alloc] at s1 hc1 hf1
  have z1 : w.heap.size + 1 < w1.heap.size := by omega
  have q0 : w1.cell? ⟨0, 0, none⟩ = some (.int .u64 6346243789798364141) := by rw [hc1 _ _ (by omega)]; go_simp
  have q1 : w1.cell? ⟨0, 1, none⟩ = some (.int .u64 1503914060200516822) := by rw [hc1 _ _ (by omega)]; go_simp
  have q2 : w1.cell? ⟨0, 2, none⟩ = some (.int .u64 0) := by rw [hc1 _ _ (by omega)]; go_simp
  have q3 : w1.cell? ⟨0, 3, none⟩ = some (.int .u64 1152921504606846976) := by rw [hc1 _ _ (by omega)]; go_simp
  by_cases hlt : val4 o0 o1 o2 o3 < LL
  · rw [show decide (val4 o0 o1 o2 o3 < LL) = true from decide_eq_true hlt]
    have HL := Lib.hid hlt
    clear hlt
    go_wp2
    refine bodyPost_ret (v := A4 o0 o1 o2 o3) (by simp only [results, Tryd.results32]; go_simp) rfl ⟨?_, ?_⟩
    · rw [A4_L4 _ _ _ _ hO, ← HV.out, Nat.mod_eq_of_lt HL.out]
    · (repeat' (first | (with_reducible assumption) | (with_reducible exact Below.refl _ _) | (with_reducible refine Below.drew ?_) | (with_reducible refine Below.alloc ?_ ?_ _) | (with_reducible refine below_set ?_ ?_ _ _) | (with_reducible refine below_setRow ?_ ?_ _) | (with_reducible refine below_step ?_ (by assumption) ?_))) <;> (first | omega | ((try simp only [World.size_alloc, World.size_setCell, World.size_drew, size_setRow]); omega))
  · rw [show decide (val4 o0 o1 o2 o3 < LL) = false from decide_eq_false hlt]
    have HL := Lib.hid hlt
    clear hlt
    go_wp2_with (go_at_call 30; refine (sub_c _ _ _ _ _ _ _ _ hO order_ok _).mono ?_; rintro e w2 ⟨rfl, hb2⟩; obtain ⟨hc2, hf2⟩ := bcell hb2; have s2 := hb2.size; have z2 : w.heap.size + 1 < w2.heap.size := by omega)
    refine bodyPost_ret (v := L4 (dif4 (val4 o0 o1 o2 o3) LL)) (by simp only [results, Tryd.results32, ← val4_order]; go_simp) rfl ⟨?_, ?_⟩
    · rw [← HV.out, red_LL _ (by have := HV.out; have := HA.out; omega) HL.out]
    · (repeat' (first | (with_reducible assumption) | (with_reducible exact Below.refl _ _) | (with_reducible refine Below.drew ?_) | (with_reducible refine Below.alloc ?_ ?_ _) | (with_reducible refine below_set ?_ ?_ _ _) | (with_reducible refine below_setRow ?_ ?_ _) | (with_reducible refine below_step ?_ (by assumption) ?_))) <;> (first | omega | ((try simp only [World.size_alloc, World.size_setCell, World.size_drew, size_setRow]); omega))

theorem sub_l (A B : Nat) (hA : A < P256) (hB : B < P256) (w : World) : Calls Tryd.prog 30 #[L4 A, L4 B] w fun e w' => Ret (.tuple #[L4 (dif4 A B), .int .u64 (brw A B)]) w w' e := by
  have h := sub_c _ _ _ _ _ _ _ _ (lim_U4 A) (lim_U4 B) w
  rw [val4_lim A hA, val4_lim B hB] at h; exact h
theorem less_l (A B : Nat) (hA : A < P256) (hB : B < P256) (w : World) : Calls Tryd.prog 27 #[L4 A, L4 B] w fun e w' => Ret (.bool (decide (A < B))) w w' e := by
  have h := less_c _ _ _ _ _ _ _ _ (lim_U4 A) (lim_U4 B) w
  rw [val4_lim A hA, val4_lim B hB] at h; exact h
theorem LL_lt : LL < P256 := by decide +kernel
/-- the order, as it lies in its variable -/
@[go_sem] def LV : Value := .agg #[.int .u64 6346243789798364141, .int .u64 1503914060200516822, .int .u64 0, .int .u64 1152921504606846976]
theorem LV_eq : LV = L4 LL := L4_order.symm
theorem subO (A : Nat) (hA : A < P256) (w : World) : Calls Tryd.prog 30 #[L4 A, LV] w fun e w' => Ret (.tuple #[L4 (dif4 A LL), .int .u64 (brw A LL)]) w w' e := by rw [LV_eq]; exact sub_l A LL hA LL_lt w
theorem Osub (A : Nat) (hA : A < P256) (w : World) : Calls Tryd.prog 30 #[LV, L4 A] w fun e w' => Ret (.tuple #[L4 (dif4 LL A), .int .u64 (brw LL A)]) w w' e := by rw [LV_eq]; exact sub_l LL A LL_lt hA w
theorem lessO (A : Nat) (hA : A < P256) (w : World) : Calls Tryd.prog 27 #[L4 A, LV] w fun e w' => Ret (.bool (decide (A < LL))) w w' e := by rw [LV_eq]; exact less_l A LL hA LL_lt w
theorem twice_l (A bit : Nat) (hA : A < LL) (hb : bit ≤ 1) (w : World) (hG : GL w) : Calls Tryd.prog 32 #[L4 A, .int .u64 bit] w fun e w' => Ret (L4 ((2 * A + bit) % LL)) w w' e := by
  have h4 : A < P256 := Nat.lt_trans hA LL_lt
  have h := twice_c _ _ _ _ (bit : Int) (lim_U4 A) (by omega) (by omega) (by rw [val4_lim A h4]; exact hA) w hG
  rw [val4_lim A h4, Int.toNat_natCast] at h; exact h
end Go.Proofs.YtgmdpiaenfogcaaDoor
