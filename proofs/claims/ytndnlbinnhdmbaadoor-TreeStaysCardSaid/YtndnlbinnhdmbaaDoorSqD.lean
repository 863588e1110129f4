/- the document's turn of a word of 32 bits, by numbers of the type int. Conditions: the number is a word. -/
import Derived.Test.YtndnlbinnhdmbaaDoorBw
import Derived.Test.YtndnlbinnhdmbaaDoorSg
set_option linter.unusedSimpArgs false
set_option linter.unusedVariables false
namespace Go.Proofs.YtndnlbinnhdmbaaDoor
set_option maxHeartbeats 1500000
set_option maxRecDepth 100000
open Go.RowKit
attribute [local irreducible] wpList

theorem rturn4_c (p : Int) (hp : W4 p) (n : Nat) (h1 : 1 ≤ n) (h2 : n ≤ 31) (w : World) :
  Calls Tryd.prog 63 #[.int .i64 p, .int .i64 (n : Int)] w fun e w' => Ret (.int .i64 (rt4 p n)) w w' e := by
 have n0 : (1 : Int) ≤ (n : Int) := by omega
 have n1 : (n : Int) ≤ 31 := by omega
 have hs := ix_shl hp h1 h2
 have ht := ix_turn hp h1 h2
 clear hp
 have off0 : Off [] w w := Off.refl _ _
 go_enter Tryd.func63, Tryd.ntmps63
 go_upto_region 1 with fail
 refine Rx 10 ?_
 refine Xv ?_
 refine Xv ?_
 refine Xw ?_ (v := .int .i64 (p / 2 ^ n)) (hv := fun _ _ => by exact run_shr_i (n := n) (by omega) rfl rfl rfl)
 refine Xv ?_
 refine Xv ?_
 refine Xw ?_ (v := .int .i64 (((32 - n : Nat) : Int))) (hv := fun _ _ => by go_simp; (try simp only [IntKind.wrap_u64, IntKind.wrap_i64]); (try omega))
 refine Xw ?_ (v := .int .i64 (p * 2 ^ (32 - n))) (hv := fun _ _ => by rw [← hs]; exact run_shl_i (n := 32 - n) (by omega) rfl rfl rfl)
 refine Xw ?_ (v := .int .i64 (bits .or .i64 (p / 2 ^ n) (p * 2 ^ (32 - n)))) (hv := fun _ _ => by exact run_or_i rfl rfl rfl)
 refine Xw ?_ (v := .int .i64 (rt4 p n)) (hv := fun _ _ => by rw [← ht]; exact run_and_i rfl rfl rfl)
 refine Xv ?_
 refine wpX_nil fun W1 hE => ?_
 have hO := off_ext hE
 replace off0 := off0.o hO
 clear hO hE
 refine LN ?_
 go_wp2
 exact bodyPost_ret (v := .int .i64 (rt4 p n)) (by simp only [results, Tryd.results63]; go_simp) rfl ⟨rfl, off0.ext⟩
end Go.Proofs.YtndnlbinnhdmbaaDoor
