/- The document's constants are the first bits behind the point of the primes' roots. Conditions: the tables hold their numbers. -/
import Derived.Test.YtfkhogeaadldnaaDoorBgP
import Derived.Test.YtfkhogeaadldnaaDoorBgR
import Derived.Test.YtfkhogeaadldnaaDoorSn
namespace Go.Proofs.YtfkhogeaadldnaaDoor
set_option linter.unusedSimpArgs false
set_option linter.unusedVariables false
open Go.RowKit
attribute [local irreducible] wpList
theorem kf_root : ∀ i, i < 80 → kf i = ((rtv (pr i * 2 ^ 192) true 70 % 2 ^ 64 : Nat) : Int) := by decide +kernel
theorem hf_root : ∀ i, i < 8 → hf i = ((rtv (pr i * 2 ^ 128) false 70 % 2 ^ 64 : Nat) : Int) := by decide +kernel
theorem run_neT {w : World} {o : Oper} {a : Act} {x y : Operand} {t t' : TypeId} {p q : Int} (h : p = q) (hu : Tryd.prog.underlying t = some (.int .u64)) (ho : o.op = .binOp .neq t x y t') (hx : a.eval x = .int .u64 p) (hy : a.eval y = .int .u64 q) : (execOp a.eval o).run Tryd.prog w = .ok (.value (.bool false)) w := by
  subst h
  simp only [execOp, ho, hx, hy, eqGuard, binOp, Sem.run_bind]
  simp [go_sem, Sem.run_bind]

set_option maxRecDepth 100000 in
set_option maxHeartbeats 1500000 in
theorem right_c (w : World) (hR : GR w) :
    Calls Tryd.prog 12 #[] w fun e w' => Ret (.bool true) w w' e := by
  have HR := Lib.hid hR
  clear hR
  have off0 : Off [] w w := Off.refl _ _
  have sz := off0.size
  go_enter Tryd.func12, Tryd.ntmps12
  go_wp2_with fail
  go_loopw [1] (fun si wr => ∃ (i : Nat), (i ≤ 80) ∧ (si = .int .i64 (i : Int)) ∧ Off [] w wr)
    (fun si _ => 80 - (intOf si).toNat)
  case atStart => exact ⟨0, Nat.zero_le _, rfl, off0⟩
  case round =>
    obtain ⟨i, hi, rfl, off0⟩ := hrel
    obtain ⟨W1, eW_⟩ := wname off0
    subst eW_
    have sz := off0.size
    by_cases hz : i = 80
    · have _f := hz
      subst hz
      go_upto_region 2 with fail
      refine wp_region_lit ?_
      (refine wpL_val (v := ?_) (by rfl) ?_ ?_; rotate_left 1; (focus (go_simp; first | done | with_reducible rfl)))
      (try simp only [Act.put, List.setIfInBounds_toArray, List.set_cons_zero, List.set_cons_succ])
      refine wpL_val (v := .bool false) (by rfl) (by first | rfl | (go_simp; done) | (go_simp; with_reducible rfl) | (go_simp; omega)) ?_
      (try simp only [Act.put, List.setIfInBounds_toArray, List.set_cons_zero, List.set_cons_succ])
      refine wpL_nil ?_
      go_wp2_with fail
      go_loopw [2] (fun si wr => ∃ (i : Nat), (i ≤ 8) ∧ (si = .int .i64 (i : Int)) ∧ Off [] w wr)
        (fun si _ => 8 - (intOf si).toNat)
      case atStart => exact ⟨0, Nat.zero_le _, rfl, off0⟩
      case round =>
        obtain ⟨i, hi, rfl, off0⟩ := hrel
        obtain ⟨W2, eW_⟩ := wname off0
        subst eW_
        have sz := off0.size
        by_cases hz : i = 8
        · have _f := hz
          subst hz
          go_upto_region 7 with fail
          refine wp_region_lit ?_
          (refine wpL_val (v := ?_) (by rfl) ?_ ?_; rotate_left 1; (focus (go_simp; first | done | with_reducible rfl)))
          (try simp only [Act.put, List.setIfInBounds_toArray, List.set_cons_zero, List.set_cons_succ])
          refine wpL_val (v := .bool false) (by rfl) (by first | rfl | (go_simp; done) | (go_simp; with_reducible rfl) | (go_simp; omega)) ?_
          (try simp only [Act.put, List.setIfInBounds_toArray, List.set_cons_zero, List.set_cons_succ])
          refine wpL_nil ?_
          go_wp2
          exact bodyPost_ret (v := .bool true) (by simp only [results, Tryd.results12]; go_simp) rfl ⟨rfl, off0.ext⟩
        · have _f := hz
          have hlt : i < 8 := by omega
          have h80 : i < 80 := by omega
          go_upto_region 7 with fail
          refine wp_region_lit ?_
          (refine wpL_val (v := ?_) (by rfl) ?_ ?_; rotate_left 1; (focus (go_simp; first | done | with_reducible rfl)))
          (try simp only [Act.put, List.setIfInBounds_toArray, List.set_cons_zero, List.set_cons_succ])
          refine wpL_val (v := .bool true) (by rfl) (by exact run_ltE (p := i) (q := 8) (decide_eq_true (by omega)) rfl rfl rfl) ?_
          (try simp only [Act.put, List.setIfInBounds_toArray, List.set_cons_zero, List.set_cons_succ])
          refine wpL_nil ?_
          go_upto_region 9 with fail
          refine wp_region_xn 8 [] (by kernel_rfl) (fun x hx => by cases hx) (by kernel_rfl) ?_
          simp only [List.take_succ_cons, List.take_zero, List.take_nil]
          (try simp only [Act.put, List.setIfInBounds_toArray, List.set_cons_zero, List.set_cons_succ])
          (refine wpX_val (v := ?_) (by rfl) (fun W hW => ?_) ?_; rotate_left 1; (focus (go_simp; first | done | with_reducible rfl)); (try simp only [Act.put, List.setIfInBounds_toArray, List.set_cons_zero, List.set_cons_succ]))
          refine wpX_val (v := .pointer (some ⟨1, 0 + i, none⟩)) (by rfl) (fun _ _ => run_ixarr (m := 8) (by decide) (by omega) Tryd.underlying36 (by kernel_rfl) rfl rfl rfl) ?_
          (try simp only [Act.put, List.setIfInBounds_toArray, List.set_cons_zero, List.set_cons_succ])
          refine wpX_cell (v := .int .u64 (hf i)) ((GR_ext HR.out off0.ext).2) (by rw [Nat.zero_add]; exact arrK_get _ _ _ _ (by omega)) (by rfl) rfl rfl (by kernel_rfl) ?_
          (try simp only [Act.put, List.setIfInBounds_toArray, List.set_cons_zero, List.set_cons_succ])
          (refine wpX_val (v := ?_) (by rfl) (fun W hW => ?_) ?_; rotate_left 1; (focus (go_simp; first | done | with_reducible rfl)); (try simp only [Act.put, List.setIfInBounds_toArray, List.set_cons_zero, List.set_cons_succ]))
          ((with_reducible refine wpX_fn (fun W hW => bPrime_c i h80 W) ?_ rfl ?_ ?_ ?_); (focus rfl); (focus kernel_rfl); (focus rfl); (try simp only [Act.put, List.setIfInBounds_toArray, List.set_cons_zero, List.set_cons_succ]))
          ((with_reducible refine wpX_fn (fun W hW => bRoot_0 (pr i) (pr_lt _ h80) W) ?_ rfl ?_ ?_ ?_); (focus rfl); (focus kernel_rfl); (focus rfl); (try simp only [Act.put, List.setIfInBounds_toArray, List.set_cons_zero, List.set_cons_succ]))
          ((with_reducible refine wpX_fn (fun W hW => part_c (rtv (pr i * 2 ^ 128) false 70) W) ?_ rfl ?_ ?_ ?_); (focus rfl); (focus kernel_rfl); (focus rfl); (try simp only [Act.put, List.setIfInBounds_toArray, List.set_cons_zero, List.set_cons_succ]))
          refine wpX_val (v := .bool false) (by rfl) (fun _ _ => by exact run_neT (hf_root i hlt) Tryd.underlying31 rfl rfl rfl) ?_
          (try simp only [Act.put, List.setIfInBounds_toArray, List.set_cons_zero, List.set_cons_succ])
          refine wpX_nil ?_
          intro β W3 hE hN hD
          clear hN hD
          simp only [putAll, Act.put, List.setIfInBounds_toArray, List.set_cons_zero, List.set_cons_succ, List.drop_succ_cons, List.drop_zero, List.drop_nil, List.length_cons, List.length_nil, Nat.add_zero]
          have hO := off_ext hE
          replace off0 := off0.step hO i0
          replace sz := off0.size
          clear hO hE β
          refine wpL_nil ?_
          first | with_reducible refine NoPanic.normal (Q := Exit.then _ _) ?_ | with_reducible refine NoPanic.normal ?_
          go_wp2
          go_roundw
          case rel => exact ⟨i + 1, by omega, by go_num, off0⟩
          case measure => first | (simp [intOf]; done) | (simp [intOf]; omega)
    · have _f := hz
      have hlt : i < 80 := by omega
      have h80 : i < 80 := by omega
      go_upto_region 2 with fail
      refine wp_region_lit ?_
      (refine wpL_val (v := ?_) (by rfl) ?_ ?_; rotate_left 1; (focus (go_simp; first | done | with_reducible rfl)))
      (try simp only [Act.put, List.setIfInBounds_toArray, List.set_cons_zero, List.set_cons_succ])
      refine wpL_val (v := .bool true) (by rfl) (by exact run_ltE (p := i) (q := 80) (decide_eq_true (by omega)) rfl rfl rfl) ?_
      (try simp only [Act.put, List.setIfInBounds_toArray, List.set_cons_zero, List.set_cons_succ])
      refine wpL_nil ?_
      go_upto_region 4 with fail
      refine wp_region_xn 8 [] (by kernel_rfl) (fun x hx => by cases hx) (by kernel_rfl) ?_
      simp only [List.take_succ_cons, List.take_zero, List.take_nil]
      (try simp only [Act.put, List.setIfInBounds_toArray, List.set_cons_zero, List.set_cons_succ])
      (refine wpX_val (v := ?_) (by rfl) (fun W hW => ?_) ?_; rotate_left 1; (focus (go_simp; first | done | with_reducible rfl)); (try simp only [Act.put, List.setIfInBounds_toArray, List.set_cons_zero, List.set_cons_succ]))
      refine wpX_val (v := .pointer (some ⟨2, 0 + i, none⟩)) (by rfl) (fun _ _ => run_ixarr (m := 80) (by decide) (by omega) Tryd.underlying38 (by kernel_rfl) rfl rfl rfl) ?_
      (try simp only [Act.put, List.setIfInBounds_toArray, List.set_cons_zero, List.set_cons_succ])
      refine wpX_cell (v := .int .u64 (kf i)) ((GR_ext HR.out off0.ext).1) (by rw [Nat.zero_add]; exact arrK_get _ _ _ _ (by omega)) (by rfl) rfl rfl (by kernel_rfl) ?_
      (try simp only [Act.put, List.setIfInBounds_toArray, List.set_cons_zero, List.set_cons_succ])
      (refine wpX_val (v := ?_) (by rfl) (fun W hW => ?_) ?_; rotate_left 1; (focus (go_simp; first | done | with_reducible rfl)); (try simp only [Act.put, List.setIfInBounds_toArray, List.set_cons_zero, List.set_cons_succ]))
      ((with_reducible refine wpX_fn (fun W hW => bPrime_c i h80 W) ?_ rfl ?_ ?_ ?_); (focus rfl); (focus kernel_rfl); (focus rfl); (try simp only [Act.put, List.setIfInBounds_toArray, List.set_cons_zero, List.set_cons_succ]))
      ((with_reducible refine wpX_fn (fun W hW => bRoot_1 (pr i) (pr_lt _ h80) W) ?_ rfl ?_ ?_ ?_); (focus rfl); (focus kernel_rfl); (focus rfl); (try simp only [Act.put, List.setIfInBounds_toArray, List.set_cons_zero, List.set_cons_succ]))
      ((with_reducible refine wpX_fn (fun W hW => part_c (rtv (pr i * 2 ^ 192) true 70) W) ?_ rfl ?_ ?_ ?_); (focus rfl); (focus kernel_rfl); (focus rfl); (try simp only [Act.put, List.setIfInBounds_toArray, List.set_cons_zero, List.set_cons_succ]))
      refine wpX_val (v := .bool false) (by rfl) (fun _ _ => by exact run_neT (kf_root i hlt) Tryd.underlying31 rfl rfl rfl) ?_
      (try simp only [Act.put, List.setIfInBounds_toArray, List.set_cons_zero, List.set_cons_succ])
      refine wpX_nil ?_
      intro β W2 hE hN hD
      clear hN hD
      simp only [putAll, Act.put, List.setIfInBounds_toArray, List.set_cons_zero, List.set_cons_succ, List.drop_succ_cons, List.drop_zero, List.drop_nil, List.length_cons, List.length_nil, Nat.add_zero]
      have hO := off_ext hE
      replace off0 := off0.step hO i0
      replace sz := off0.size
      clear hO hE β
      refine wpL_nil ?_
      first | with_reducible refine NoPanic.normal (Q := Exit.then _ _) ?_ | with_reducible refine NoPanic.normal ?_
      go_wp2
      go_roundw
      case rel => exact ⟨i + 1, by omega, by go_num, off0⟩
      case measure => first | (simp [intOf]; done) | (simp [intOf]; omega)
end Go.Proofs.YtfkhogeaadldnaaDoor
