/- sha5.turn, the document's turn: a word turned to the right. No conditions. -/
import Derived.Test.YtfkhogeaadldnaaDoorWd
namespace Go.Proofs.YtfkhogeaadldnaaDoor
set_option linter.unusedSimpArgs false
set_option linter.unusedVariables false
open Go.RowKit
attribute [local irreducible] wpList

theorem and63 (n : Nat) (h1 : 1 ≤ n) (h2 : n ≤ 63) : bits .and .u64 (18446744073709551616 - (n : Int)) 63 = ((64 - n : Nat) : Int) := by
  obtain ⟨m, hm⟩ : ∃ m : Nat, m = 18446744073709551616 - n := ⟨_, rfl⟩
  have e : (18446744073709551616 - (n : Int)) = (m : Int) := by omega
  have h63 : (BitVec.ofInt 64 63).toNat = 2 ^ 6 - 1 := by decide
  have key : (BitVec.ofInt 64 (m : Int) &&& BitVec.ofInt 64 63).toNat = m % 2 ^ 6 := by
    rw [BitVec.toNat_and, BitVec.toNat_ofInt, h63, Nat.and_two_pow_sub_one_eq_mod]
    omega
  rw [e]
  show IntKind.u64.wrap ((BitVec.ofInt 64 (m : Int) &&& BitVec.ofInt 64 63).toNat : Nat) = _
  rw [key, IntKind.wrap_u64]
  omega

set_option maxRecDepth 100000 in
set_option maxHeartbeats 4000000 in
theorem rotl_c (p : Int) (n : Nat) (h1 : 1 ≤ n) (h2 : n ≤ 63) (w : World) :
    Calls Tryd.prog 22 #[.int .u64 p, .int .i64 (-(n : Int))] w fun e w' => Ret (.int .u64 (rt p n)) w w' e := by
  have n0 : (1 : Int) ≤ (n : Int) := by omega
  have n1 : (n : Int) ≤ 63 := by omega
  have ha := and63 n h1 h2
  have off0 : Off [] w w := Off.refl _ _
  have sz := off0.size
  go_enter Tryd.func22, Tryd.ntmps22
  go_upto_region 1 with fail
  refine wp_region_lit ?_
  (refine wpL_val (v := ?_) (by rfl) ?_ ?_; rotate_left 1; (focus (go_simp; first | done | with_reducible rfl)))
  (try simp only [Act.put, List.setIfInBounds_toArray, List.set_cons_zero, List.set_cons_succ])
  refine wpL_val (v := .int .u64 (18446744073709551616 - (n : Int))) (by rfl) (by go_simp; (try simp only [IntKind.wrap_u64, IntKind.wrap_i64]); (try omega)) ?_
  (try simp only [Act.put, List.setIfInBounds_toArray, List.set_cons_zero, List.set_cons_succ])
  refine wpL_val (v := .int .u64 (((64 - n : Nat) : Int))) (by rfl) (by first | (go_simp; done) | (go_simp; (try rw [ha]); (try omega))) ?_
  (try simp only [Act.put, List.setIfInBounds_toArray, List.set_cons_zero, List.set_cons_succ])
  (refine wpL_val (v := ?_) (by rfl) ?_ ?_; rotate_left 1; (focus (go_simp; first | done | with_reducible rfl)))
  (try simp only [Act.put, List.setIfInBounds_toArray, List.set_cons_zero, List.set_cons_succ])
  refine wpL_nil ?_
  go_upto_region 2 with fail
  refine wp_region_lit ?_
  (refine wpL_val (v := ?_) (by rfl) ?_ ?_; rotate_left 1; (focus (go_simp; first | done | with_reducible rfl)))
  (try simp only [Act.put, List.setIfInBounds_toArray, List.set_cons_zero, List.set_cons_succ])
  (refine wpL_val (v := ?_) (by rfl) ?_ ?_; rotate_left 1; (focus (go_simp; first | done | with_reducible rfl)))
  (try simp only [Act.put, List.setIfInBounds_toArray, List.set_cons_zero, List.set_cons_succ])
  refine wpL_val (v := .int .u64 (sl p (64 - n))) (by rfl) (run_shl (n := (64 - n)) (by omega) rfl rfl rfl) ?_
  (try simp only [Act.put, List.setIfInBounds_toArray, List.set_cons_zero, List.set_cons_succ])
  (refine wpL_val (v := ?_) (by rfl) ?_ ?_; rotate_left 1; (focus (go_simp; first | done | with_reducible rfl)))
  (try simp only [Act.put, List.setIfInBounds_toArray, List.set_cons_zero, List.set_cons_succ])
  (refine wpL_val (v := ?_) (by rfl) ?_ ?_; rotate_left 1; (focus (go_simp; first | done | with_reducible rfl)))
  (try simp only [Act.put, List.setIfInBounds_toArray, List.set_cons_zero, List.set_cons_succ])
  refine wpL_val (v := .int .u64 ((n : Int))) (by rfl) (by go_simp; (try simp only [IntKind.wrap_u64, IntKind.wrap_i64]); (try omega)) ?_
  (try simp only [Act.put, List.setIfInBounds_toArray, List.set_cons_zero, List.set_cons_succ])
  refine wpL_val (v := .int .u64 (sr p n)) (by rfl) (run_shr (n := n) (by omega) rfl rfl rfl) ?_
  (try simp only [Act.put, List.setIfInBounds_toArray, List.set_cons_zero, List.set_cons_succ])
  refine wpL_val (v := .int .u64 (oo (sl p (64 - n)) (sr p n))) (by rfl) (run_or rfl rfl rfl) ?_
  (try simp only [Act.put, List.setIfInBounds_toArray, List.set_cons_zero, List.set_cons_succ])
  (refine wpL_val (v := ?_) (by rfl) ?_ ?_; rotate_left 1; (focus (go_simp; first | done | with_reducible rfl)))
  (try simp only [Act.put, List.setIfInBounds_toArray, List.set_cons_zero, List.set_cons_succ])
  refine wpL_nil ?_
  go_wp2
  exact bodyPost_ret (v := .int .u64 (oo (sl p (64 - n)) (sr p n))) (by simp only [results, Tryd.results22]; go_simp) rfl ⟨congrArg (fun z => Ending.returned (.int .u64 z)) (oo_comm _ _), off0.ext⟩
set_option maxRecDepth 100000 in
set_option maxHeartbeats 4000000 in
theorem turn_c (p : Int) (n : Nat) (h1 : 1 ≤ n) (h2 : n ≤ 63) (w : World) :
    Calls Tryd.prog 19 #[.int .u64 p, .int .i64 (n : Int)] w fun e w' => Ret (.int .u64 (rt p n)) w w' e := by
  have n0 : (1 : Int) ≤ (n : Int) := by omega
  have n1 : (n : Int) ≤ 63 := by omega
  have off0 : Off [] w w := Off.refl _ _
  have sz := off0.size
  go_enter Tryd.func19, Tryd.ntmps19
  go_upto_region 1 with fail
  refine wp_region_lit ?_
  (refine wpL_val (v := ?_) (by rfl) ?_ ?_; rotate_left 1; (focus (go_simp; first | done | with_reducible rfl)))
  (try simp only [Act.put, List.setIfInBounds_toArray, List.set_cons_zero, List.set_cons_succ])
  (refine wpL_val (v := ?_) (by rfl) ?_ ?_; rotate_left 1; (focus (go_simp; first | done | with_reducible rfl)))
  (try simp only [Act.put, List.setIfInBounds_toArray, List.set_cons_zero, List.set_cons_succ])
  refine wpL_val (v := .int .i64 (-(n : Int))) (by rfl) (by go_simp; (try simp only [IntKind.wrap_u64, IntKind.wrap_i64]); (try omega)) ?_
  (try simp only [Act.put, List.setIfInBounds_toArray, List.set_cons_zero, List.set_cons_succ])
  refine wpL_ret (rotl_c p n h1 h2 w) (by rfl) rfl (by kernel_rfl) rfl ?_
  (try simp only [Act.put, List.setIfInBounds_toArray, List.set_cons_zero, List.set_cons_succ])
  intro W1 hO
  replace off0 := off0.step hO i0
  replace sz := off0.size
  clear hO
  (refine wpL_val (v := ?_) (by rfl) ?_ ?_; rotate_left 1; (focus (go_simp; first | done | with_reducible rfl)))
  (try simp only [Act.put, List.setIfInBounds_toArray, List.set_cons_zero, List.set_cons_succ])
  refine wpL_nil ?_
  go_wp2
  exact bodyPost_ret (v := .int .u64 (rt p n)) (by simp only [results, Tryd.results19]; go_simp) rfl ⟨rfl, off0.ext⟩
set_option maxRecDepth 100000 in
set_option maxHeartbeats 4000000 in
theorem rturn_c (p : Int) (n : Nat) (h1 : 1 ≤ n) (h2 : n ≤ 63) (w : World) :
    Calls Tryd.prog 14 #[.int .u64 p, .int .i64 (n : Int)] w fun e w' => Ret (.int .u64 (rt p n)) w w' e := by
  have n0 : (1 : Int) ≤ (n : Int) := by omega
  have n1 : (n : Int) ≤ 63 := by omega
  have off0 : Off [] w w := Off.refl _ _
  have sz := off0.size
  go_enter Tryd.func14, Tryd.ntmps14
  go_upto_region 1 with fail
  refine wp_region_xn 9 [] (by kernel_rfl) (fun x hx => by cases hx) (by kernel_rfl) ?_
  simp only [List.take_succ_cons, List.take_zero, List.take_nil]
  (try simp only [Act.put, List.setIfInBounds_toArray, List.set_cons_zero, List.set_cons_succ])
  (refine wpX_val (v := ?_) (by rfl) (fun W hW => ?_) ?_; rotate_left 1; (focus (go_simp; first | done | with_reducible rfl)); (try simp only [Act.put, List.setIfInBounds_toArray, List.set_cons_zero, List.set_cons_succ]))
  (refine wpX_val (v := ?_) (by rfl) (fun W hW => ?_) ?_; rotate_left 1; (focus (go_simp; first | done | with_reducible rfl)); (try simp only [Act.put, List.setIfInBounds_toArray, List.set_cons_zero, List.set_cons_succ]))
  refine wpX_val (v := .int .u64 (sr p n)) (by rfl) (fun _ _ => run_shr (n := n) (by omega) rfl rfl rfl) ?_
  (try simp only [Act.put, List.setIfInBounds_toArray, List.set_cons_zero, List.set_cons_succ])
  (refine wpX_val (v := ?_) (by rfl) (fun W hW => ?_) ?_; rotate_left 1; (focus (go_simp; first | done | with_reducible rfl)); (try simp only [Act.put, List.setIfInBounds_toArray, List.set_cons_zero, List.set_cons_succ]))
  (refine wpX_val (v := ?_) (by rfl) (fun W hW => ?_) ?_; rotate_left 1; (focus (go_simp; first | done | with_reducible rfl)); (try simp only [Act.put, List.setIfInBounds_toArray, List.set_cons_zero, List.set_cons_succ]))
  refine wpX_val (v := .int .i64 (((64 - n : Nat) : Int))) (by rfl) (fun _ _ => by go_simp; (try simp only [IntKind.wrap_u64, IntKind.wrap_i64]); (try omega)) ?_
  (try simp only [Act.put, List.setIfInBounds_toArray, List.set_cons_zero, List.set_cons_succ])
  refine wpX_val (v := .int .u64 (sl p (64 - n))) (by rfl) (fun _ _ => run_shl (n := (64 - n)) (by omega) rfl rfl rfl) ?_
  (try simp only [Act.put, List.setIfInBounds_toArray, List.set_cons_zero, List.set_cons_succ])
  refine wpX_val (v := .int .u64 (oo (sr p n) (sl p (64 - n)))) (by rfl) (fun _ _ => run_or rfl rfl rfl) ?_
  (try simp only [Act.put, List.setIfInBounds_toArray, List.set_cons_zero, List.set_cons_succ])
  (refine wpX_val (v := ?_) (by rfl) (fun W hW => ?_) ?_; rotate_left 1; (focus (go_simp; first | done | with_reducible rfl)); (try simp only [Act.put, List.setIfInBounds_toArray, List.set_cons_zero, List.set_cons_succ]))
  refine wpX_nil ?_
  intro β W1 hE hN hD
  clear hN hD
  simp only [putAll, Act.put, List.setIfInBounds_toArray, List.set_cons_zero, List.set_cons_succ, List.drop_succ_cons, List.drop_zero, List.drop_nil, List.length_nil, Nat.add_zero]
  have hO := off_ext hE
  replace off0 := off0.step hO i0
  replace sz := off0.size
  clear hO hE β
  refine wpL_nil ?_
  first | refine NoPanic.normal (Q := Exit.then _ _) ?_ | refine NoPanic.normal ?_
  go_wp2
  exact bodyPost_ret (v := .int .u64 (oo (sr p n) (sl p (64 - n)))) (by simp only [results, Tryd.results14]; go_simp) rfl ⟨rfl, off0.ext⟩
end Go.Proofs.YtfkhogeaadldnaaDoor
