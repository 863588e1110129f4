/- custumalref06.Raw: four words as 32 bytes. No conditions. custumalref06.Bytes: 16 parts as 32 bytes. No conditions. custumalref06.Of: a text's bytes, the lowest first, modulo the order. Conditions: the text is the bytes of a number. -/
import Derived.Test.YtefpoollmbmkfaaDoorNa
import Derived.Test.YtefpoollmbmkfaaDoorGa
import Derived.Deep.AppendLies
import Derived.Test.YtefpoollmbmkfaaDoorRa
import Derived.Deep.RegionHeld3
import Derived.Test.YtefpoollmbmkfaaDoorNc
import Derived.Test.YtefpoollmbmkfaaDoorGc
set_option linter.unusedSimpArgs false
set_option linter.unusedVariables false
namespace Go.Proofs.YtefpoollmbmkfaaDoor.Sc
set_option maxHeartbeats 1000000
set_option maxRecDepth 100000
open Go.RowKit

theorem Q8h (X k : Nat) : IntKind.u8.wrap (Q2 X k) = Q6 X (2 * k) ∧ IntKind.u8.wrap (Q2 X k / 256) = Q6 X (2 * k + 1) := by
  unfold Q2 Q6
  rw [IntKind.wrap_u8, IntKind.wrap_u8, show 8 * (2 * k) = 16 * k by omega, show 8 * (2 * k + 1) = 16 * k + 8 by omega, Nat.pow_add, ← Nat.div_div_eq_div_mul]
  generalize X / 2 ^ (16 * k) = x
  constructor <;> omega

theorem rbytes_c (X : Nat) (w : World) : Calls Tryd.prog 52 #[A16 X] w fun e w' => Ret (Q6i 32 (Q6 X)) w w' e := by
  obtain ⟨i0, hi, hz0, hz1, hz2⟩ := info_parts Z01
  unfold A16
  go_enter Tryd.func52, Tryd.ntmps52
  go_wp2
  go_loopw [3, 4] (fun v ii wr => ∃ k : Nat, k ≤ 16 ∧ ii = .int .i64 k ∧ Below w.heap.size w wr ∧ wr.ownsRow (w.heap.size + 1) 5 1 v (2 * k) (J7b .u8 (2 * k) (Q6 X)) ∧
      Blk wr w.heap.size (J1 .i64 16 (Q2 X)) 83)
    (fun _ ii _ => (16 - intOf ii).toNat)
  case atStart =>
    refine ⟨0, by omega, rfl, ?_, ?_, V3 (K0 _ _ rfl) _⟩
    · exact bz
    · exact ⟨rfl, .inr ⟨w.heap.size + 1, 0, #[], rfl, Nat.le_refl _, K0 _ _ (by simp), Nat.le_refl _, by decide, rfl, rfl⟩⟩
  case round =>
    obtain ⟨k, hk, rfl, hbel, hown, b1⟩ := hrel
    by_cases hk0 : k = 16
    · subst hk0
      have hc := J9r Tryd.underlying23 Tryd.underlying5 hown 9 Tryd.underlying9
      go_wp2
      go_ret
      exact ⟨rfl, hbel⟩
    · have hk' : (k : Int) < 16 := by omega
      have c1 := (Q8 b1 k).trans (J6 _ _ _ _ (by omega))
      have r1 := J0q X k
      obtain ⟨hb1, hb2⟩ := Q8h X k
      have off0.size := hbel.size
      have HB := Lib.hid hbel.size
      have ag : u3.ownBlock ≠ some w.heap.size := fun h => by have := (hown.lt _ h).1; omega
      have hob : ∀ k, u3.ownBlock = some k → w.heap.size + 1 ≤ k := fun k hk => (hown.lt k hk).1
      have HO := Lib.hid hob
      clear hob
      go_wp2_with fail
      go_region_held3 (fun W => W.cell? ⟨w.heap.size, k, none⟩ = some (.int .i64 (Q2 X k)))
        (first
          | go_keep
          | (rw [hgrow.cell_far _ (by simp; omega) (Ne.symm ag)]; first | assumption | (simp [*]; done)))
        ((refine step_append_lies _ (by rfl) (.tmp 10) (.tmp 20) 23 (by rfl) (w.heap.size + 1) 5 i0 (.int .u8 0) 1 1 Tryd.underlying23 hi hz0 hz1 hz2 rfl (by omega) u3 (2 * k) (J7b .u8 (2 * k) (Q6 X)) (by rfl) (by first | exact (hown.alloc _).drew | exact (hown.drew).alloc _)
            ⟨wr.heap.size, 0, none⟩ 2 2 [.int .u8 (Q6 X (2 * k)), .int .u8 (Q6 X (2 * k + 1))] (by rfl) (by rfl) (World.news_of_block (cs := #[.int .u8 (Q6 X (2 * k)), .int .u8 (Q6 X (2 * k + 1))]) (t := 5) (fr := (0, 0)) (heap_alloc_new wr _)) (by simp [Value.oneCell'])
            (by omega) (by unfold maxLen; omega) (by omega) (by simp; omega) (wr.heap.size + 1) (by simp) ?_; intro gg cap w1 hown1 hgrow hat hlt))
      have hob := HO.out
      rw [List.append_cons, ← Q0h, ← Q0h] at hown1
      have hbel' := Q6r ((hbel.alloc off0.size (.cells #[.int .u8 (Q6 X (2 * k)), .int .u8 (Q6 X (2 * k + 1))] 5)).drew) hgrow (by simp; omega) (fun k hk => by have := hob k hk; omega)
      have b1' := Q6s (V4 (V3 b1 _)) hgrow (fun k hk => by have := hob k hk; omega)
      go_wp2
      go_roundw
      case rel =>
        exact ⟨k + 1, by omega, by go_num, hbel', hown1, b1'⟩
      case measure => simp [intOf]; omega
end Go.Proofs.YtefpoollmbmkfaaDoor.Sc

namespace Go.Proofs.YtefpoollmbmkfaaDoor.Sc
set_option maxHeartbeats 1000000
set_option maxRecDepth 100000
open Go.RowKit

theorem Z6n (T p : Nat) : (T / 2 ^ p % 2 = 0 → (T / 2 ^ (p + 1) % LL + T / 2 ^ (p + 1) % LL) % LL = T / 2 ^ p % LL) ∧
    (T / 2 ^ p % 2 = 1 → ((T / 2 ^ (p + 1) % LL + T / 2 ^ (p + 1) % LL) % LL + 1) % LL = T / 2 ^ p % LL) := by
  rw [Nat.pow_succ, ← Nat.div_div_eq_div_mul]
  generalize T / 2 ^ p = U
  constructor
  · intro h
    rw [← Nat.add_mod, show U / 2 + U / 2 = U by omega]
  · intro h
    rw [← Nat.add_mod, Nat.add_mod, Nat.mod_mod, ← Nat.add_mod, show U / 2 + U / 2 + 1 = U by omega]
theorem Y99 (T i k : Nat) (hk : k < 8) : Q6 T i / 2 ^ k % 2 = ((T / 2 ^ (8 * i + k) % 2 : Nat) : Int) := by
  unfold Q6
  rw [Nat.pow_add, ← Nat.div_div_eq_div_mul]
  generalize T / 2 ^ (8 * i) = x
  have h : k = 0 ∨ k = 1 ∨ k = 2 ∨ k = 3 ∨ k = 4 ∨ k = 5 ∨ k = 6 ∨ k = 7 := by omega
  rcases h with rfl | rfl | rfl | rfl | rfl | rfl | rfl | rfl <;> simp only [Nat.reducePow, Int.reducePow] <;> omega
theorem Y53 : A16 1 = .agg #[.int .i64 1, .int .i64 0, .int .i64 0, .int .i64 0, .int .i64 0, .int .i64 0, .int .i64 0, .int .i64 0, .int .i64 0, .int .i64 0, .int .i64 0, .int .i64 0, .int .i64 0, .int .i64 0, .int .i64 0, .int .i64 0] := by
  unfold A16; rw [Z06, show (List.range 16).map (Q2 1) = [1, 0, 0, 0, 0, 0, 0, 0, 0, 0, 0, 0, 0, 0, 0, 0] by decide +kernel]; rfl
theorem Z1x : J1 .i64 16 (Q2 0) = J1 .i64 16 (fun _ => 0) := J0d _ _ _ _ (fun i _ => by simp [Q2])
end Go.Proofs.YtefpoollmbmkfaaDoor.Sc
