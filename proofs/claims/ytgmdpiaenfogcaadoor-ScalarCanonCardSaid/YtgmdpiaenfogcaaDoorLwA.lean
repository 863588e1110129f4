/- custumallaw06.orders is true. -/
import Derived.Test.YtgmdpiaenfogcaaDoorScE
import Derived.Test.YtgmdpiaenfogcaaDoorScF
namespace Go.Proofs.YtgmdpiaenfogcaaDoor
open Go.RowKit

theorem c4_LL : c4 LL = #[.int .u64 6346243789798364141, .int .u64 1503914060200516822, .int .u64 0, .int .u64 1152921504606846976] := by
  unfold c4; rw [show lim LL 0 = 6346243789798364141 by decide +kernel, show lim LL 1 = 1503914060200516822 by decide +kernel, show lim LL 2 = 0 by decide +kernel, show lim LL 3 = 1152921504606846976 by decide +kernel]
theorem L4_one : L4 1 = .agg #[.int .u64 1, .int .u64 0, .int .u64 0, .int .u64 0] := by
  unfold L4; rw [show lim 1 0 = 1 by decide +kernel, show lim 1 1 = 0 by decide +kernel, show lim 1 2 = 0 by decide +kernel, show lim 1 3 = 0 by decide +kernel]

theorem orders_c (w : World) (hG : GL w) : Calls Tryd.prog 7 #[] w fun e w' => Ret (.bool true) w w' e := by
  have HG := Lib.hid hG
  clear hG
  go_enter Tryd.func7, Tryd.ntmps7
  have hadd := add_c LL 1 LL_lt (by decide)
  rw [show (LL + 1) % LL = 1 by decide +kernel, L4_one] at hadd
  unfold L4 at hadd
  rw [show lim LL 0 = 6346243789798364141 by decide +kernel, show lim LL 3 = 1152921504606846976 by decide +kernel] at hadd
  have heq := eq4 1 1 (by decide) (by decide)
  unfold c4 at heq
  rw [show lim 1 0 = 1 by decide +kernel, show lim 1 1 = 0 by decide +kernel, show lim 1 2 = 0 by decide +kernel, show lim 1 3 = 0 by decide +kernel, show decide ((1 : Nat) = 1) = true by rfl] at heq
  go_wp2_with (first
    | (go_at_call 23; refine (order_c _ HG.out).mono ?_; rintro e w1 ⟨rfl, hb1⟩)
    | (go_at_call 18; refine (hadd _ (GL_alloc (GL_step HG.out hb1) _)).mono ?_; rintro e w2 ⟨rfl, hb2⟩))
  refine bodyPost_ret (v := .bool true) (by simp only [results, Tryd.results7]; go_simp) rfl ⟨rfl, ?_⟩
  have s1 := hb1.size
  exact below_step (hb1.alloc s1 _) hb2 (by simp only [World.size_alloc]; omega)
end Go.Proofs.YtgmdpiaenfogcaaDoor
