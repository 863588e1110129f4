/- The walks of field.Elem.sub and add, each once. Conditions: words of 64 bits. -/
import Derived.Test.YtghajiagbfcmdaaDoorGb
import Derived.Test.YtghajiagbfcmdaaDoorGa
import Derived.Deep.QuietTactic
import Derived.BigQuiet
import Derived.BigRegion
import Derived.Lib.Hide
namespace Go.Proofs.YtghajiagbfcmdaaDoor
set_option linter.unusedSimpArgs false
set_option linter.unusedVariables false
open Go.RowKit

set_option maxHeartbeats 1000000 in
theorem sub_c (a0 a1 a2 a3 b0 b1 b2 b3 : Int) (ha : U4 a0 a1 a2 a3) (hb : U4 b0 b1 b2 b3) (w : World) :
    Calls Tryd.prog 56 #[A4 a0 a1 a2 a3, A4 b0 b1 b2 b3] w fun e w' =>
      Ret (.tuple #[L4 (dif4 (val4 a0 a1 a2 a3) (val4 b0 b1 b2 b3)), .int .u64 (brw (val4 a0 a1 a2 a3) (val4 b0 b1 b2 b3))]) w w' e := by
  have hch := sub_chain a0 a1 a2 a3 b0 b1 b2 b3 ha hb
  have HC := Lib.hid hch
  clear hch
  have h0 := sub64_run a0 b0 0 ha.1 hb.1 (by omega) (by omega)
  have h1 := sub64_run a1 b1 _ ha.2.1 hb.2.1 (sbB_b a0 b0 0).1 (sbB_b a0 b0 0).2
  have h2 := sub64_run a2 b2 _ ha.2.2.1 hb.2.2.1 (sbB_b a1 b1 (sbB a0 b0 0)).1 (sbB_b a1 b1 (sbB a0 b0 0)).2
  have h3 := sub64_run a3 b3 _ ha.2.2.2 hb.2.2.2 (sbB_b a2 b2 (sbB a1 b1 (sbB a0 b0 0))).1 (sbB_b a2 b2 (sbB a1 b1 (sbB a0 b0 0))).2
  clear ha hb
  go_enter Tryd.func56, Tryd.ntmps56
  go_wp2
  refine wp_loop_rounds 5 ?_
  rw [rounds_succ]
  go_wp2
  go_region
  go_wp2
  rw [rounds_succ]
  go_wp2
  go_region
  go_wp2
  rw [rounds_succ]
  go_wp2
  go_region
  go_wp2
  rw [rounds_succ]
  go_wp2
  go_region
  go_wp2
  rw [rounds_succ]
  go_wp2
  refine bodyPost_ret (v := .tuple #[A4 (sbD a0 b0 0) (sbD a1 b1 (sbB a0 b0 0)) (sbD a2 b2 (sbB a1 b1 (sbB a0 b0 0))) (sbD a3 b3 (sbB a2 b2 (sbB a1 b1 (sbB a0 b0 0)))), .int .u64 (sbB a3 b3 (sbB a2 b2 (sbB a1 b1 (sbB a0 b0 0))))]) (by simp [results, Tryd.results56, go_sem]) rfl ⟨?_, ?_⟩
  · rw [HC.out.1, HC.out.2]
  · (repeat' (first | (with_reducible assumption) | (with_reducible exact Below.refl _ _) | (with_reducible refine Below.drew ?_) | (with_reducible refine Below.alloc ?_ ?_ _) | (with_reducible refine below_set ?_ ?_ _ _) | (with_reducible refine below_setRow ?_ ?_ _) | (with_reducible refine below_step ?_ (by assumption) ?_))) <;> (first | omega | ((try simp only [World.size_alloc, World.size_setCell, World.size_drew, size_setRow]); omega))

set_option maxHeartbeats 1000000 in
theorem add_c (a0 a1 a2 a3 b0 b1 b2 b3 : Int) (ha : U4 a0 a1 a2 a3) (hb : U4 b0 b1 b2 b3) (w : World) :
    Calls Tryd.prog 55 #[A4 a0 a1 a2 a3, A4 b0 b1 b2 b3] w fun e w' =>
      Ret (.tuple #[L4 ((val4 a0 a1 a2 a3 + val4 b0 b1 b2 b3) % P256), .int .u64 ((val4 a0 a1 a2 a3 + val4 b0 b1 b2 b3) / P256 : Nat)]) w w' e := by
  have hch := add_chain a0 a1 a2 a3 b0 b1 b2 b3 0 ha hb (by omega) (by omega)
  simp only [Int.toNat_zero, Nat.add_zero] at hch
  have HC := Lib.hid hch
  clear hch
  have v0 := adC_b a0 b0 0 ha.1 hb.1 (by omega) (by omega)
  have v1 := adC_b a1 b1 _ ha.2.1 hb.2.1 v0.1 v0.2
  have v2 := adC_b a2 b2 _ ha.2.2.1 hb.2.2.1 v1.1 v1.2
  have h0 := add64_run a0 b0 0 ha.1 hb.1 (by omega) (by omega)
  have h1 := add64_run a1 b1 _ ha.2.1 hb.2.1 v0.1 v0.2
  have h2 := add64_run a2 b2 _ ha.2.2.1 hb.2.2.1 v1.1 v1.2
  have h3 := add64_run a3 b3 _ ha.2.2.2 hb.2.2.2 v2.1 v2.2
  clear v0 v1 v2
  clear ha hb
  go_enter Tryd.func55, Tryd.ntmps55
  go_wp2
  refine wp_loop_rounds 5 ?_
  rw [rounds_succ]
  go_wp2
  go_region
  go_wp2
  rw [rounds_succ]
  go_wp2
  go_region
  go_wp2
  rw [rounds_succ]
  go_wp2
  go_region
  go_wp2
  rw [rounds_succ]
  go_wp2
  go_region
  go_wp2
  rw [rounds_succ]
  go_wp2
  refine bodyPost_ret (v := .tuple #[A4 (adS a0 b0 0) (adS a1 b1 (adC a0 b0 0)) (adS a2 b2 (adC a1 b1 (adC a0 b0 0))) (adS a3 b3 (adC a2 b2 (adC a1 b1 (adC a0 b0 0)))), .int .u64 (adC a3 b3 (adC a2 b2 (adC a1 b1 (adC a0 b0 0))))]) (by simp [results, Tryd.results55, go_sem]) rfl ⟨?_, ?_⟩
  · rw [HC.out.1, HC.out.2]; rfl
  · (repeat' (first | (with_reducible assumption) | (with_reducible exact Below.refl _ _) | (with_reducible refine Below.drew ?_) | (with_reducible refine Below.alloc ?_ ?_ _) | (with_reducible refine below_set ?_ ?_ _ _) | (with_reducible refine below_setRow ?_ ?_ _) | (with_reducible refine below_step ?_ (by assumption) ?_))) <;> (first | omega | ((try simp only [World.size_alloc, World.size_setCell, World.size_drew, size_setRow]); omega))

theorem fsub_l (A B : Nat) (hA : A < P256) (hB : B < P256) (w : World) : Calls Tryd.prog 56 #[L4 A, L4 B] w fun e w' => Ret (.tuple #[L4 (dif4 A B), .int .u64 (brw A B)]) w w' e := by
  have h := sub_c _ _ _ _ _ _ _ _ (lim_U4 A) (lim_U4 B) w
  rw [val4_lim A hA, val4_lim B hB] at h; exact h
theorem fadd_l (A B : Nat) (hA : A < P256) (hB : B < P256) (w : World) : Calls Tryd.prog 55 #[L4 A, L4 B] w fun e w' => Ret (.tuple #[L4 ((A + B) % P256), .int .u64 ((A + B) / P256 : Nat)]) w w' e := by
  have h := add_c _ _ _ _ _ _ _ _ (lim_U4 A) (lim_U4 B) w
  rw [val4_lim A hA, val4_lim B hB] at h; exact h
end Go.Proofs.YtghajiagbfcmdaaDoor
