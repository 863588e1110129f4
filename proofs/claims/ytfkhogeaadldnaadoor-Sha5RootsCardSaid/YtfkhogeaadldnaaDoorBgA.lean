/- Numbers of parts: products, less. No conditions. -/
import Derived.Test.YtfkhogeaadldnaaDoorBg
namespace Go.Proofs.YtfkhogeaadldnaaDoor
set_option linter.unusedSimpArgs false
set_option linter.unusedVariables false
open Go.RowKit
attribute [local irreducible] wpList

set_option maxRecDepth 100000 in
set_option maxHeartbeats 1500000 in
theorem bTimes_c (A B : Nat) (w : World) :
    Calls Tryd.prog 20 #[.agg (arrK .i64 28 (l16 A)), .agg (arrK .i64 28 (l16 B))] w fun e w' => Ret (.agg (arrK .i64 28 (l16 (A * B % q28)))) w w' e := by
  have off0 : Off [] w w := Off.refl _ _
  have sz := off0.size
  go_enter Tryd.func20, Tryd.ntmps20
  go_upto_region 0 with fail
  refine wp_region_lit ?_
  refine wpL_new (z := arrK .i64 28 (l16 A)) (t := 42) (by rfl) (by first | kernel_rfl | (go_simp; done) | (go_simp; rfl)) ?_
  (try simp only [Act.put, List.setIfInBounds_toArray, List.set_cons_zero, List.set_cons_succ])
  intro p2_1 W1 n_t2 hO h_
  have fb_t2 : Fb p2_1 w.heap.size [] := fb_new (Nat.le_trans sz n_t2)
  replace off0 := off0.step hO i0
  replace sz := off0.size
  have k_t2 := h_
  clear hO h_ n_t2
  refine wpL_new (z := arrK .i64 28 (l16 B)) (t := 42) (by rfl) (by first | kernel_rfl | (go_simp; done) | (go_simp; rfl)) ?_
  (try simp only [Act.put, List.setIfInBounds_toArray, List.set_cons_zero, List.set_cons_succ])
  intro p3_2 W2 n_t3 hO h_
  have nq_t2_t3 : p2_1 ≠ p3_2 := Nat.ne_of_lt (Nat.lt_of_lt_of_le (blk_lt k_t2) n_t3)
  have fb_t3 : Fb p3_2 w.heap.size [] := fb_new (Nat.le_trans sz n_t3)
  replace k_t2 := blk_off k_t2 hO nm0
  replace off0 := off0.step hO i0
  replace sz := off0.size
  have k_t3 := h_
  clear hO h_ n_t3
  refine wpL_new (z := arrK .i64 28 (l16 0)) (t := 42) (by rfl) (by first | kernel_rfl | (go_simp; done) | (go_simp; rfl)) ?_
  (try simp only [Act.put, List.setIfInBounds_toArray, List.set_cons_zero, List.set_cons_succ])
  intro p4_3 W3 n_t4 hO h_
  have nq_t2_t4 : p2_1 ≠ p4_3 := Nat.ne_of_lt (Nat.lt_of_lt_of_le (blk_lt k_t2) n_t4)
  have nq_t3_t4 : p3_2 ≠ p4_3 := Nat.ne_of_lt (Nat.lt_of_lt_of_le (blk_lt k_t3) n_t4)
  have fb_t4 : Fb p4_3 w.heap.size [] := fb_new (Nat.le_trans sz n_t4)
  replace k_t2 := blk_off k_t2 hO nm0
  replace k_t3 := blk_off k_t3 hO nm0
  replace off0 := off0.step hO i0
  replace sz := off0.size
  have k_t4 := h_
  clear hO h_ n_t4
  refine wpL_nil ?_
  go_upto_region 1 with fail
  refine wp_region_lit ?_
  refine wpL_new (z := arrK .i64 28 (l16 0)) (t := 42) (by rfl) (by first | kernel_rfl | (go_simp; done) | (go_simp; rfl)) ?_
  (try simp only [Act.put, List.setIfInBounds_toArray, List.set_cons_zero, List.set_cons_succ])
  intro p5_4 W4 n_t5 hO h_
  have nq_t2_t5 : p2_1 ≠ p5_4 := Nat.ne_of_lt (Nat.lt_of_lt_of_le (blk_lt k_t2) n_t5)
  have nq_t3_t5 : p3_2 ≠ p5_4 := Nat.ne_of_lt (Nat.lt_of_lt_of_le (blk_lt k_t3) n_t5)
  have nq_t4_t5 : p4_3 ≠ p5_4 := Nat.ne_of_lt (Nat.lt_of_lt_of_le (blk_lt k_t4) n_t5)
  have fb_t5 : Fb p5_4 w.heap.size [] := fb_new (Nat.le_trans sz n_t5)
  replace k_t2 := blk_off k_t2 hO nm0
  replace k_t3 := blk_off k_t3 hO nm0
  replace k_t4 := blk_off k_t4 hO nm0
  replace off0 := off0.step hO i0
  replace sz := off0.size
  have k_t5 := h_
  clear hO h_ n_t5
  refine wpL_nil ?_
  go_wp2_with fail
  go_loopw [6] (fun si wr => ∃ (i : Nat), (i ≤ 28) ∧ (si = .int .i64 (i : Int)) ∧ Off [] w wr ∧ Blk wr p2_1 (arrK .i64 28 (l16 A)) 42 ∧ Blk wr p3_2 (arrK .i64 28 (l16 B)) 42 ∧ Blk wr p4_3 (arrK .i64 28 (l16 0)) 42 ∧ Blk wr p5_4 (arrK .i64 28 (l16 (A % 2 ^ (16 * i) * B % q28))) 42)
    (fun si _ => 28 - (intOf si).toNat)
  case atStart => exact ⟨0, Nat.zero_le _, rfl, off0, k_t2, k_t3, k_t4, (by rw [m448_0]; exact k_t5)⟩
  case round =>
    obtain ⟨i, hi, rfl, off0, k_t2, k_t3, k_t4, k_t5⟩ := hrel
    obtain ⟨W5, eW_⟩ := wname off0
    subst eW_
    have sz := off0.size
    by_cases hz : i = 28
    · have _f := hz
      subst hz
      rw [show A % 2 ^ (16 * 28) * B % q28 = A * B % q28 by rw [← q28_eq, Nat.mod_mul_mod]] at k_t5
      go_upto_region 3 with fail
      refine wp_region_lit ?_
      (refine wpL_val (v := ?_) (by rfl) ?_ ?_; rotate_left 1; (focus (go_simp; first | done | with_reducible rfl)))
      (try simp only [Act.put, List.setIfInBounds_toArray, List.set_cons_zero, List.set_cons_succ])
      refine wpL_val (v := .bool false) (by rfl) (by first | rfl | (go_simp; done) | (go_simp; with_reducible rfl) | (go_simp; omega)) ?_
      (try simp only [Act.put, List.setIfInBounds_toArray, List.set_cons_zero, List.set_cons_succ])
      refine wpL_nil ?_
      go_upto_region 12 with fail
      refine wp_region_lit ?_
      refine wpL_load0 (by rfl) rfl rfl k_t5 (by kernel_rfl) (by rw [arrK_size]; kernel_rfl) ?_
      (try simp only [Act.put, List.setIfInBounds_toArray, List.set_cons_zero, List.set_cons_succ])
      refine wpL_putrow (cells := arrK .i64 28 (l16 (A * B % q28))) (by rfl) rfl rfl rfl k_t4 (by rw [arrK_size]; kernel_rfl) (by first | rw [arrK_size, arrK_size] | rw [arrK_size] | kernel_rfl) (by exact arrK_one _ _ _) ?_
      (try simp only [Act.put, List.setIfInBounds_toArray, List.set_cons_zero, List.set_cons_succ])
      intro W6 hO h_
      replace k_t4 : Blk W6 p4_3 (arrK .i64 28 (l16 (A * B % q28))) 42 := h_
      clear h_
      replace k_t2 := blk_off k_t2 hO (nm1 nq_t2_t4)
      replace k_t3 := blk_off k_t3 hO (nm1 nq_t3_t4)
      replace k_t5 := blk_off k_t5 hO (nm1 nq_t4_t5.symm)
      replace off0 := off0.step hO (i1 fb_t4)
      replace sz := off0.size
      clear hO
      refine wpL_nil ?_
      go_wp2
      exact bodyPost_ret (res_row rfl rfl k_t4 (by kernel_rfl) (by rw [arrK_size]; kernel_rfl)) rfl ⟨rfl, off0.ext⟩
    · have _f := hz
      have hi28 : i < 28 := by omega
      obtain ⟨C0, hC0⟩ : ∃ C0, C0 = A % 2 ^ (16 * i) * B % q28 := ⟨_, rfl⟩
      rw [← hC0] at k_t5
      have HC0 := Lib.hid hC0
      clear hC0
      go_upto_region 3 with fail
      refine wp_region_lit ?_
      (refine wpL_val (v := ?_) (by rfl) ?_ ?_; rotate_left 1; (focus (go_simp; first | done | with_reducible rfl)))
      (try simp only [Act.put, List.setIfInBounds_toArray, List.set_cons_zero, List.set_cons_succ])
      refine wpL_val (v := .bool true) (by rfl) (by first | rfl | (go_simp; done) | (go_simp; with_reducible rfl) | (go_simp; omega)) ?_
      (try simp only [Act.put, List.setIfInBounds_toArray, List.set_cons_zero, List.set_cons_succ])
      refine wpL_nil ?_
      go_wp2_with fail
      go_loopw [7, 8] (fun so sk wr => ∃ (k : Nat) (N : Nat) (over : Nat), (k ≤ 28 - i) ∧ (sk = .int .i64 (k : Int)) ∧ (so = .int .i64 (over : Int)) ∧ (over < 65536) ∧ (N + over * 2 ^ (16 * (i + k)) = C0 + dgt A i * 2 ^ (16 * i) * (B % 2 ^ (16 * k))) ∧ Off [] w wr ∧ Blk wr p2_1 (arrK .i64 28 (l16 A)) 42 ∧ Blk wr p3_2 (arrK .i64 28 (l16 B)) 42 ∧ Blk wr p4_3 (arrK .i64 28 (l16 0)) 42 ∧ Blk wr p5_4 (arrK .i64 28 (l16 N)) 42)
        (fun so sk _ => 28 - (intOf sk).toNat)
      case atStart => exact ⟨0, C0, 0, Nat.zero_le _, rfl, rfl, by decide, by rw [Nat.zero_mul, Nat.mul_zero 16, Nat.pow_zero, Nat.mod_one, Nat.mul_zero], off0, k_t2, k_t3, k_t4, k_t5⟩
      case round =>
        obtain ⟨k, N, over, hk, rfl, rfl, ho, hinv, off0, k_t2, k_t3, k_t4, k_t5⟩ := hrel
        obtain ⟨W6, eW_⟩ := wname off0
        subst eW_
        have sz := off0.size
        by_cases hz2 : k = 28 - i
        · have _f := hz2
          rw [hz2] at hinv
          have H2 := Lib.hid hz2
          clear _f hz2
          go_upto_region 7 with fail
          refine wp_region_lit ?_
          (refine wpL_val (v := ?_) (by rfl) ?_ ?_; rotate_left 1; (focus (go_simp; first | done | with_reducible rfl)))
          (try simp only [Act.put, List.setIfInBounds_toArray, List.set_cons_zero, List.set_cons_succ])
          (refine wpL_val (v := ?_) (by rfl) ?_ ?_; rotate_left 1; (focus (go_simp; first | done | with_reducible rfl)))
          (try simp only [Act.put, List.setIfInBounds_toArray, List.set_cons_zero, List.set_cons_succ])
          refine wpL_val (v := .int .i64 ((i + k : Nat) : Int)) (by rfl) (by exact run_addE rfl (by omega) rfl rfl rfl) ?_
          (try simp only [Act.put, List.setIfInBounds_toArray, List.set_cons_zero, List.set_cons_succ])
          refine wpL_val (v := .bool false) (by rfl) (by exact run_ltE (p := i + k) (q := 28) (decide_eq_false (by have := H2.out; omega)) rfl rfl rfl) ?_
          (try simp only [Act.put, List.setIfInBounds_toArray, List.set_cons_zero, List.set_cons_succ])
          refine wpL_nil ?_
          go_wp2
          go_roundw
          case rel => exact ⟨i + 1, by omega, by go_num, off0, k_t2, k_t3, k_t4, (by rw [← bg_row (by omega) HC0.out hinv, ← arr_mod]; exact k_t5)⟩
          case measure => first | (simp [intOf]; done) | (simp [intOf]; omega)
        · have _f := hz2
          have hk28 : i + k < 28 := by omega
          obtain ⟨S, hS⟩ : ∃ S, S = dgt N (i + k) + dgt A i * dgt B k + over := ⟨_, rfl⟩
          have HS := Lib.hid hS
          clear hS
          go_upto_region 7 with fail
          refine wp_region_lit ?_
          (refine wpL_val (v := ?_) (by rfl) ?_ ?_; rotate_left 1; (focus (go_simp; first | done | with_reducible rfl)))
          (try simp only [Act.put, List.setIfInBounds_toArray, List.set_cons_zero, List.set_cons_succ])
          (refine wpL_val (v := ?_) (by rfl) ?_ ?_; rotate_left 1; (focus (go_simp; first | done | with_reducible rfl)))
          (try simp only [Act.put, List.setIfInBounds_toArray, List.set_cons_zero, List.set_cons_succ])
          refine wpL_val (v := .int .i64 ((i + k : Nat) : Int)) (by rfl) (by exact run_addE rfl (by omega) rfl rfl rfl) ?_
          (try simp only [Act.put, List.setIfInBounds_toArray, List.set_cons_zero, List.set_cons_succ])
          refine wpL_val (v := .bool true) (by rfl) (by exact run_ltE (p := i + k) (q := 28) (decide_eq_true (by omega)) rfl rfl rfl) ?_
          (try simp only [Act.put, List.setIfInBounds_toArray, List.set_cons_zero, List.set_cons_succ])
          refine wpL_nil ?_
          go_upto_region 9 with fail
          refine wp_region_xn 16 [] (by kernel_rfl) (fun x hx => by cases hx) (by kernel_rfl) ?_
          simp only [List.take_succ_cons, List.take_zero, List.take_nil]
          (try simp only [Act.put, List.setIfInBounds_toArray, List.set_cons_zero, List.set_cons_succ])
          (refine wpX_val (v := ?_) (by rfl) (fun W hW => ?_) ?_; rotate_left 1; (focus (go_simp; first | done | with_reducible rfl)); (try simp only [Act.put, List.setIfInBounds_toArray, List.set_cons_zero, List.set_cons_succ]))
          (refine wpX_val (v := ?_) (by rfl) (fun W hW => ?_) ?_; rotate_left 1; (focus (go_simp; first | done | with_reducible rfl)); (try simp only [Act.put, List.setIfInBounds_toArray, List.set_cons_zero, List.set_cons_succ]))
          refine wpX_val (v := .int .i64 ((i + k : Nat) : Int)) (by rfl) (fun _ _ => by exact run_addE rfl (by omega) rfl rfl rfl) ?_
          (try simp only [Act.put, List.setIfInBounds_toArray, List.set_cons_zero, List.set_cons_succ])
          refine wpX_val (v := .pointer (some ⟨p5_4, 0 + (i + k), none⟩)) (by rfl) (fun _ _ => run_ixarr (m := 28) (by decide) (by omega) Tryd.underlying42 (by kernel_rfl) rfl rfl rfl) ?_
          (try simp only [Act.put, List.setIfInBounds_toArray, List.set_cons_zero, List.set_cons_succ])
          refine wpX_cell (v := .int .i64 ((l16 N) (i + k))) (blk_rd k_t5) (by rw [Nat.zero_add]; exact arrK_get _ _ _ _ (by omega)) (by rfl) rfl rfl (by kernel_rfl) ?_
          (try simp only [Act.put, List.setIfInBounds_toArray, List.set_cons_zero, List.set_cons_succ])
          (refine wpX_val (v := ?_) (by rfl) (fun W hW => ?_) ?_; rotate_left 1; (focus (go_simp; first | done | with_reducible rfl)); (try simp only [Act.put, List.setIfInBounds_toArray, List.set_cons_zero, List.set_cons_succ]))
          refine wpX_val (v := .pointer (some ⟨p2_1, 0 + i, none⟩)) (by rfl) (fun _ _ => run_ixarr (m := 28) (by decide) (by omega) Tryd.underlying42 (by kernel_rfl) rfl rfl rfl) ?_
          (try simp only [Act.put, List.setIfInBounds_toArray, List.set_cons_zero, List.set_cons_succ])
          refine wpX_cell (v := .int .i64 ((l16 A) i)) (blk_rd k_t2) (by rw [Nat.zero_add]; exact arrK_get _ _ _ _ (by omega)) (by rfl) rfl rfl (by kernel_rfl) ?_
          (try simp only [Act.put, List.setIfInBounds_toArray, List.set_cons_zero, List.set_cons_succ])
          (refine wpX_val (v := ?_) (by rfl) (fun W hW => ?_) ?_; rotate_left 1; (focus (go_simp; first | done | with_reducible rfl)); (try simp only [Act.put, List.setIfInBounds_toArray, List.set_cons_zero, List.set_cons_succ]))
          refine wpX_val (v := .pointer (some ⟨p3_2, 0 + k, none⟩)) (by rfl) (fun _ _ => run_ixarr (m := 28) (by decide) (by omega) Tryd.underlying42 (by kernel_rfl) rfl rfl rfl) ?_
          (try simp only [Act.put, List.setIfInBounds_toArray, List.set_cons_zero, List.set_cons_succ])
          refine wpX_cell (v := .int .i64 ((l16 B) k)) (blk_rd k_t3) (by rw [Nat.zero_add]; exact arrK_get _ _ _ _ (by omega)) (by rfl) rfl rfl (by kernel_rfl) ?_
          (try simp only [Act.put, List.setIfInBounds_toArray, List.set_cons_zero, List.set_cons_succ])
          refine wpX_val (v := .int .i64 ((dgt A i * dgt B k : Nat) : Int)) (by rfl) (fun _ _ => by exact run_mulE (p := dgt A i) (q := dgt B k) rfl (by have := (over_lt HS.out ho).1; have := HS.out; omega) rfl rfl rfl) ?_
          (try simp only [Act.put, List.setIfInBounds_toArray, List.set_cons_zero, List.set_cons_succ])
          refine wpX_val (v := .int .i64 ((dgt N (i + k) + dgt A i * dgt B k : Nat) : Int)) (by rfl) (fun _ _ => by exact run_addE (p := dgt N (i + k)) (q := dgt A i * dgt B k) rfl (by have := (over_lt HS.out ho).1; have := HS.out; omega) rfl rfl rfl) ?_
          (try simp only [Act.put, List.setIfInBounds_toArray, List.set_cons_zero, List.set_cons_succ])
          (refine wpX_val (v := ?_) (by rfl) (fun W hW => ?_) ?_; rotate_left 1; (focus (go_simp; first | done | with_reducible rfl)); (try simp only [Act.put, List.setIfInBounds_toArray, List.set_cons_zero, List.set_cons_succ]))
          refine wpX_val (v := .int .i64 ((S : Nat) : Int)) (by rfl) (fun _ _ => by exact run_addE (p := dgt N (i + k) + dgt A i * dgt B k) (q := over) HS.out.symm (by have := (over_lt HS.out ho).1; omega) rfl rfl rfl) ?_
          (try simp only [Act.put, List.setIfInBounds_toArray, List.set_cons_zero, List.set_cons_succ])
          (refine wpX_val (v := ?_) (by rfl) (fun W hW => ?_) ?_; rotate_left 1; (focus (go_simp; first | done | with_reducible rfl)); (try simp only [Act.put, List.setIfInBounds_toArray, List.set_cons_zero, List.set_cons_succ]))
          refine wpX_nil ?_
          intro β W7 hE hN hD
          clear hN hD
          simp only [putAll, Act.put, List.setIfInBounds_toArray, List.set_cons_zero, List.set_cons_succ, List.drop_succ_cons, List.drop_zero, List.drop_nil, List.length_cons, List.length_nil, Nat.add_zero]
          have hO := off_ext hE
          replace k_t2 := blk_off k_t2 hO nm0
          replace k_t3 := blk_off k_t3 hO nm0
          replace k_t4 := blk_off k_t4 hO nm0
          replace k_t5 := blk_off k_t5 hO nm0
          replace off0 := off0.step hO i0
          replace sz := off0.size
          clear hO hE β
          refine wpL_nil ?_
          first | with_reducible refine NoPanic.normal (Q := Exit.then _ _) ?_ | with_reducible refine NoPanic.normal ?_
          go_upto_region 10 with fail
          refine wp_region_lit ?_
          (refine wpL_val (v := ?_) (by rfl) ?_ ?_; rotate_left 1; (focus (go_simp; first | done | with_reducible rfl)))
          (try simp only [Act.put, List.setIfInBounds_toArray, List.set_cons_zero, List.set_cons_succ])
          (refine wpL_val (v := ?_) (by rfl) ?_ ?_; rotate_left 1; (focus (go_simp; first | done | with_reducible rfl)))
          (try simp only [Act.put, List.setIfInBounds_toArray, List.set_cons_zero, List.set_cons_succ])
          refine wpL_val (v := .int .i64 ((i + k : Nat) : Int)) (by rfl) (by exact run_addE rfl (by omega) rfl rfl rfl) ?_
          (try simp only [Act.put, List.setIfInBounds_toArray, List.set_cons_zero, List.set_cons_succ])
          (refine wpL_val (v := ?_) (by rfl) ?_ ?_; rotate_left 1; (focus (go_simp; first | done | with_reducible rfl)))
          (try simp only [Act.put, List.setIfInBounds_toArray, List.set_cons_zero, List.set_cons_succ])
          refine wpL_val (v := .int .i64 ((S % 65536 : Nat) : Int)) (by rfl) (by exact run_and16 (over_lt HS.out ho).1 rfl rfl rfl) ?_
          (try simp only [Act.put, List.setIfInBounds_toArray, List.set_cons_zero, List.set_cons_succ])
          refine wpL_val (v := .pointer (some ⟨p5_4, 0 + (i + k), none⟩)) (by rfl) (run_ixarr (m := 28) (by decide) (by omega) Tryd.underlying42 (by kernel_rfl) rfl rfl rfl) ?_
          (try simp only [Act.put, List.setIfInBounds_toArray, List.set_cons_zero, List.set_cons_succ])
          refine wpL_put1 (v := .int .i64 ((S % 65536 : Nat) : Int)) ⟨rfl, rfl⟩ (by rfl) rfl rfl rfl k_t5 (by rw [arrK_size, Nat.zero_add]; omega) (by kernel_rfl) ?_
          (try simp only [Act.put, List.setIfInBounds_toArray, List.set_cons_zero, List.set_cons_succ])
          intro W8 hO h_
          rw [Nat.zero_add, arrK_set] at h_
          replace k_t5 : Blk W8 p5_4 (arrK .i64 28 (upd (l16 N) (i + k) ((S % 65536 : Nat) : Int))) 42 := h_
          clear h_
          replace k_t2 := blk_off k_t2 hO (nm1 nq_t2_t5)
          replace k_t3 := blk_off k_t3 hO (nm1 nq_t3_t5)
          replace k_t4 := blk_off k_t4 hO (nm1 nq_t4_t5)
          replace off0 := off0.step hO (i1 fb_t5)
          replace sz := off0.size
          clear hO
          refine wpL_nil ?_
          go_upto_region 11 with fail
          refine wp_region_lit ?_
          (refine wpL_val (v := ?_) (by rfl) ?_ ?_; rotate_left 1; (focus (go_simp; first | done | with_reducible rfl)))
          (try simp only [Act.put, List.setIfInBounds_toArray, List.set_cons_zero, List.set_cons_succ])
          refine wpL_val (v := .int .i64 ((S / 65536 : Nat) : Int)) (by rfl) (by exact run_shrE (n := 16) (by decide) rfl rfl rfl rfl) ?_
          (try simp only [Act.put, List.setIfInBounds_toArray, List.set_cons_zero, List.set_cons_succ])
          (refine wpL_val (v := ?_) (by rfl) ?_ ?_; rotate_left 1; (focus (go_simp; first | done | with_reducible rfl)))
          (try simp only [Act.put, List.setIfInBounds_toArray, List.set_cons_zero, List.set_cons_succ])
          refine wpL_nil ?_
          go_wp2
          go_roundw
          case rel => exact ⟨k + 1, setd N (i + k) (S % 65536), S / 65536, by omega, by go_num, rfl, (over_lt HS.out ho).2, bg_step HS.out hinv, off0, k_t2, k_t3, k_t4, (by rw [← upd_setd _ _ _ (Nat.mod_lt _ (by decide))]; exact k_t5)⟩
          case measure => first | (simp [intOf]; done) | (simp [intOf]; omega)
set_option maxRecDepth 100000 in
set_option maxHeartbeats 1500000 in
theorem bLess_c (A B : Nat) (hA : A < 2 ^ (16 * 28)) (hB : B < 2 ^ (16 * 28)) (w : World) :
    Calls Tryd.prog 21 #[.agg (arrK .i64 28 (l16 A)), .agg (arrK .i64 28 (l16 B))] w fun e w' => Ret (.bool (decide (A < B))) w w' e := by
  have off0 : Off [] w w := Off.refl _ _
  have sz := off0.size
  go_enter Tryd.func21, Tryd.ntmps21
  go_upto_region 0 with fail
  refine wp_region_lit ?_
  refine wpL_new (z := arrK .i64 28 (l16 A)) (t := 42) (by rfl) (by first | kernel_rfl | (go_simp; done) | (go_simp; rfl)) ?_
  (try simp only [Act.put, List.setIfInBounds_toArray, List.set_cons_zero, List.set_cons_succ])
  intro p2_1 W1 n_t2 hO h_
  have fb_t2 : Fb p2_1 w.heap.size [] := fb_new (Nat.le_trans sz n_t2)
  replace off0 := off0.step hO i0
  replace sz := off0.size
  have k_t2 := h_
  clear hO h_ n_t2
  refine wpL_new (z := arrK .i64 28 (l16 B)) (t := 42) (by rfl) (by first | kernel_rfl | (go_simp; done) | (go_simp; rfl)) ?_
  (try simp only [Act.put, List.setIfInBounds_toArray, List.set_cons_zero, List.set_cons_succ])
  intro p3_2 W2 n_t3 hO h_
  have nq_t2_t3 : p2_1 ≠ p3_2 := Nat.ne_of_lt (Nat.lt_of_lt_of_le (blk_lt k_t2) n_t3)
  have fb_t3 : Fb p3_2 w.heap.size [] := fb_new (Nat.le_trans sz n_t3)
  replace k_t2 := blk_off k_t2 hO nm0
  replace off0 := off0.step hO i0
  replace sz := off0.size
  have k_t3 := h_
  clear hO h_ n_t3
  refine wpL_val (v := .bool false) (by rfl) (by first | rfl | (go_simp; done) | (go_simp; with_reducible rfl) | (go_simp; omega)) ?_
  (try simp only [Act.put, List.setIfInBounds_toArray, List.set_cons_zero, List.set_cons_succ])
  refine wpL_nil ?_
  go_wp2_with fail
  go_loopw [5] (fun si wr => ∃ (m : Nat), (m ≤ 28) ∧ (si = .int .i64 ((m : Int) - 1)) ∧ (A / 2 ^ (16 * m) = B / 2 ^ (16 * m)) ∧ Off [] w wr ∧ Blk wr p2_1 (arrK .i64 28 (l16 A)) 42 ∧ Blk wr p3_2 (arrK .i64 28 (l16 B)) 42)
    (fun si _ => (intOf si + 1).toNat)
  case atStart => exact ⟨28, Nat.le_refl _, rfl, by rw [Nat.div_eq_of_lt hA, Nat.div_eq_of_lt hB], off0, k_t2, k_t3⟩
  case round =>
    obtain ⟨m, hm, rfl, hinv, off0, k_t2, k_t3⟩ := hrel
    obtain ⟨W3, eW_⟩ := wname off0
    subst eW_
    have sz := off0.size
    by_cases hz : m = 0
    · have _f := hz
      subst hz
      go_upto_region 2 with fail
      refine wp_region_lit ?_
      (refine wpL_val (v := ?_) (by rfl) ?_ ?_; rotate_left 1; (focus (go_simp; first | done | with_reducible rfl)))
      (try simp only [Act.put, List.setIfInBounds_toArray, List.set_cons_zero, List.set_cons_succ])
      refine wpL_val (v := .bool false) (by rfl) (by first | rfl | (go_simp; done) | (go_simp; with_reducible rfl) | (go_simp; omega)) ?_
      (try simp only [Act.put, List.setIfInBounds_toArray, List.set_cons_zero, List.set_cons_succ])
      refine wpL_nil ?_
      have hAB : A = B := by rw [Nat.mul_zero, Nat.pow_zero, Nat.div_one, Nat.div_one] at hinv; exact hinv
      go_wp2
      exact bodyPost_ret (v := .bool false) (by simp only [results, Tryd.results21]; go_simp) rfl ⟨by first | rfl | (rw [hAB, decide_eq_false (Nat.lt_irrefl _)]), off0.ext⟩
    · have _f := hz
      obtain ⟨j, rfl⟩ : ∃ j, m = j + 1 := ⟨m - 1, by omega⟩
      rw [show ((j + 1 : Nat) : Int) - 1 = (j : Int) by omega]
      go_upto_region 2 with fail
      refine wp_region_lit ?_
      (refine wpL_val (v := ?_) (by rfl) ?_ ?_; rotate_left 1; (focus (go_simp; first | done | with_reducible rfl)))
      (try simp only [Act.put, List.setIfInBounds_toArray, List.set_cons_zero, List.set_cons_succ])
      refine wpL_val (v := .bool true) (by rfl) (by first | rfl | (go_simp; done) | (go_simp; with_reducible rfl) | (go_simp; omega)) ?_
      (try simp only [Act.put, List.setIfInBounds_toArray, List.set_cons_zero, List.set_cons_succ])
      refine wpL_nil ?_
      by_cases hd : ¬ dgt A j = dgt B j
      · have _f := hd
        have H_hd := Lib.hid hd
        clear _f hd
        go_upto_region 4 with fail
        refine wp_region_xn 7 [] (by kernel_rfl) (fun x hx => by cases hx) (by kernel_rfl) ?_
        simp only [List.take_succ_cons, List.take_zero, List.take_nil]
        (try simp only [Act.put, List.setIfInBounds_toArray, List.set_cons_zero, List.set_cons_succ])
        (refine wpX_val (v := ?_) (by rfl) (fun W hW => ?_) ?_; rotate_left 1; (focus (go_simp; first | done | with_reducible rfl)); (try simp only [Act.put, List.setIfInBounds_toArray, List.set_cons_zero, List.set_cons_succ]))
        refine wpX_val (v := .pointer (some ⟨p2_1, 0 + j, none⟩)) (by rfl) (fun _ _ => run_ixarr (m := 28) (by decide) (by omega) Tryd.underlying42 (by kernel_rfl) rfl rfl rfl) ?_
        (try simp only [Act.put, List.setIfInBounds_toArray, List.set_cons_zero, List.set_cons_succ])
        refine wpX_cell (v := .int .i64 ((l16 A) j)) (blk_rd k_t2) (by rw [Nat.zero_add]; exact arrK_get _ _ _ _ (by omega)) (by rfl) rfl rfl (by kernel_rfl) ?_
        (try simp only [Act.put, List.setIfInBounds_toArray, List.set_cons_zero, List.set_cons_succ])
        (refine wpX_val (v := ?_) (by rfl) (fun W hW => ?_) ?_; rotate_left 1; (focus (go_simp; first | done | with_reducible rfl)); (try simp only [Act.put, List.setIfInBounds_toArray, List.set_cons_zero, List.set_cons_succ]))
        refine wpX_val (v := .pointer (some ⟨p3_2, 0 + j, none⟩)) (by rfl) (fun _ _ => run_ixarr (m := 28) (by decide) (by omega) Tryd.underlying42 (by kernel_rfl) rfl rfl rfl) ?_
        (try simp only [Act.put, List.setIfInBounds_toArray, List.set_cons_zero, List.set_cons_succ])
        refine wpX_cell (v := .int .i64 ((l16 B) j)) (blk_rd k_t3) (by rw [Nat.zero_add]; exact arrK_get _ _ _ _ (by omega)) (by rfl) rfl rfl (by kernel_rfl) ?_
        (try simp only [Act.put, List.setIfInBounds_toArray, List.set_cons_zero, List.set_cons_succ])
        refine wpX_val (v := .bool true) (by rfl) (fun _ _ => by exact run_neE (p := dgt A j) (q := dgt B j) (by rw [decide_eq_false H_hd.out]; rfl) Tryd.underlying3 rfl rfl rfl) ?_
        (try simp only [Act.put, List.setIfInBounds_toArray, List.set_cons_zero, List.set_cons_succ])
        refine wpX_nil ?_
        intro β W4 hE hN hD
        clear hN hD
        simp only [putAll, Act.put, List.setIfInBounds_toArray, List.set_cons_zero, List.set_cons_succ, List.drop_succ_cons, List.drop_zero, List.drop_nil, List.length_cons, List.length_nil, Nat.add_zero]
        have hO := off_ext hE
        replace k_t2 := blk_off k_t2 hO nm0
        replace k_t3 := blk_off k_t3 hO nm0
        replace off0 := off0.step hO i0
        replace sz := off0.size
        clear hO hE β
        refine wpL_nil ?_
        first | with_reducible refine NoPanic.normal (Q := Exit.then _ _) ?_ | with_reducible refine NoPanic.normal ?_
        go_upto_region 5 with fail
        refine wp_region_xn 8 [] (by kernel_rfl) (fun x hx => by cases hx) (by kernel_rfl) ?_
        simp only [List.take_succ_cons, List.take_zero, List.take_nil]
        (try simp only [Act.put, List.setIfInBounds_toArray, List.set_cons_zero, List.set_cons_succ])
        (refine wpX_val (v := ?_) (by rfl) (fun W hW => ?_) ?_; rotate_left 1; (focus (go_simp; first | done | with_reducible rfl)); (try simp only [Act.put, List.setIfInBounds_toArray, List.set_cons_zero, List.set_cons_succ]))
        refine wpX_val (v := .pointer (some ⟨p2_1, 0 + j, none⟩)) (by rfl) (fun _ _ => run_ixarr (m := 28) (by decide) (by omega) Tryd.underlying42 (by kernel_rfl) rfl rfl rfl) ?_
        (try simp only [Act.put, List.setIfInBounds_toArray, List.set_cons_zero, List.set_cons_succ])
        refine wpX_cell (v := .int .i64 ((l16 A) j)) (blk_rd k_t2) (by rw [Nat.zero_add]; exact arrK_get _ _ _ _ (by omega)) (by rfl) rfl rfl (by kernel_rfl) ?_
        (try simp only [Act.put, List.setIfInBounds_toArray, List.set_cons_zero, List.set_cons_succ])
        (refine wpX_val (v := ?_) (by rfl) (fun W hW => ?_) ?_; rotate_left 1; (focus (go_simp; first | done | with_reducible rfl)); (try simp only [Act.put, List.setIfInBounds_toArray, List.set_cons_zero, List.set_cons_succ]))
        refine wpX_val (v := .pointer (some ⟨p3_2, 0 + j, none⟩)) (by rfl) (fun _ _ => run_ixarr (m := 28) (by decide) (by omega) Tryd.underlying42 (by kernel_rfl) rfl rfl rfl) ?_
        (try simp only [Act.put, List.setIfInBounds_toArray, List.set_cons_zero, List.set_cons_succ])
        refine wpX_cell (v := .int .i64 ((l16 B) j)) (blk_rd k_t3) (by rw [Nat.zero_add]; exact arrK_get _ _ _ _ (by omega)) (by rfl) rfl rfl (by kernel_rfl) ?_
        (try simp only [Act.put, List.setIfInBounds_toArray, List.set_cons_zero, List.set_cons_succ])
        refine wpX_val (v := .bool (decide (dgt A j < dgt B j))) (by rfl) (fun _ _ => by exact run_ltE rfl rfl rfl rfl) ?_
        (try simp only [Act.put, List.setIfInBounds_toArray, List.set_cons_zero, List.set_cons_succ])
        (refine wpX_val (v := ?_) (by rfl) (fun W hW => ?_) ?_; rotate_left 1; (focus (go_simp; first | done | with_reducible rfl)); (try simp only [Act.put, List.setIfInBounds_toArray, List.set_cons_zero, List.set_cons_succ]))
        refine wpX_nil ?_
        intro β W5 hE hN hD
        clear hN hD
        simp only [putAll, Act.put, List.setIfInBounds_toArray, List.set_cons_zero, List.set_cons_succ, List.drop_succ_cons, List.drop_zero, List.drop_nil, List.length_cons, List.length_nil, Nat.add_zero]
        have hO := off_ext hE
        replace k_t2 := blk_off k_t2 hO nm0
        replace k_t3 := blk_off k_t3 hO nm0
        replace off0 := off0.step hO i0
        replace sz := off0.size
        clear hO hE β
        refine wpL_nil ?_
        first | with_reducible refine NoPanic.normal (Q := Exit.then _ _) ?_ | with_reducible refine NoPanic.normal ?_
        go_wp2
        exact bodyPost_ret (v := .bool (decide (dgt A j < dgt B j))) (by simp only [results, Tryd.results21]; go_simp) rfl ⟨by rw [less_step hinv H_hd.out], off0.ext⟩
      · have _f := hd
        have hd := Decidable.of_not_not hd
        have H_hd := Lib.hid hd
        clear _f hd
        go_upto_region 4 with fail
        refine wp_region_xn 7 [] (by kernel_rfl) (fun x hx => by cases hx) (by kernel_rfl) ?_
        simp only [List.take_succ_cons, List.take_zero, List.take_nil]
        (try simp only [Act.put, List.setIfInBounds_toArray, List.set_cons_zero, List.set_cons_succ])
        (refine wpX_val (v := ?_) (by rfl) (fun W hW => ?_) ?_; rotate_left 1; (focus (go_simp; first | done | with_reducible rfl)); (try simp only [Act.put, List.setIfInBounds_toArray, List.set_cons_zero, List.set_cons_succ]))
        refine wpX_val (v := .pointer (some ⟨p2_1, 0 + j, none⟩)) (by rfl) (fun _ _ => run_ixarr (m := 28) (by decide) (by omega) Tryd.underlying42 (by kernel_rfl) rfl rfl rfl) ?_
        (try simp only [Act.put, List.setIfInBounds_toArray, List.set_cons_zero, List.set_cons_succ])
        refine wpX_cell (v := .int .i64 ((l16 A) j)) (blk_rd k_t2) (by rw [Nat.zero_add]; exact arrK_get _ _ _ _ (by omega)) (by rfl) rfl rfl (by kernel_rfl) ?_
        (try simp only [Act.put, List.setIfInBounds_toArray, List.set_cons_zero, List.set_cons_succ])
        (refine wpX_val (v := ?_) (by rfl) (fun W hW => ?_) ?_; rotate_left 1; (focus (go_simp; first | done | with_reducible rfl)); (try simp only [Act.put, List.setIfInBounds_toArray, List.set_cons_zero, List.set_cons_succ]))
        refine wpX_val (v := .pointer (some ⟨p3_2, 0 + j, none⟩)) (by rfl) (fun _ _ => run_ixarr (m := 28) (by decide) (by omega) Tryd.underlying42 (by kernel_rfl) rfl rfl rfl) ?_
        (try simp only [Act.put, List.setIfInBounds_toArray, List.set_cons_zero, List.set_cons_succ])
        refine wpX_cell (v := .int .i64 ((l16 B) j)) (blk_rd k_t3) (by rw [Nat.zero_add]; exact arrK_get _ _ _ _ (by omega)) (by rfl) rfl rfl (by kernel_rfl) ?_
        (try simp only [Act.put, List.setIfInBounds_toArray, List.set_cons_zero, List.set_cons_succ])
        refine wpX_val (v := .bool false) (by rfl) (fun _ _ => by exact run_neE (p := dgt A j) (q := dgt B j) (by rw [decide_eq_true H_hd.out]; rfl) Tryd.underlying3 rfl rfl rfl) ?_
        (try simp only [Act.put, List.setIfInBounds_toArray, List.set_cons_zero, List.set_cons_succ])
        refine wpX_nil ?_
        intro β W4 hE hN hD
        clear hN hD
        simp only [putAll, Act.put, List.setIfInBounds_toArray, List.set_cons_zero, List.set_cons_succ, List.drop_succ_cons, List.drop_zero, List.drop_nil, List.length_cons, List.length_nil, Nat.add_zero]
        have hO := off_ext hE
        replace k_t2 := blk_off k_t2 hO nm0
        replace k_t3 := blk_off k_t3 hO nm0
        replace off0 := off0.step hO i0
        replace sz := off0.size
        clear hO hE β
        refine wpL_nil ?_
        first | with_reducible refine NoPanic.normal (Q := Exit.then _ _) ?_ | with_reducible refine NoPanic.normal ?_
        go_wp2
        go_roundw
        case rel => exact ⟨j, by omega, by go_num, less_next hinv H_hd.out, off0, k_t2, k_t3⟩
        case measure => first | (simp [intOf]; done) | (simp [intOf]; omega)
end Go.Proofs.YtfkhogeaadldnaaDoor
