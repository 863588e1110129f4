/- Primes by trial: the i-th. No conditions. -/
import Derived.Test.YtfkhogeaadldnaaDoorBgA
namespace Go.Proofs.YtfkhogeaadldnaaDoor
set_option linter.unusedSimpArgs false
set_option linter.unusedVariables false
open Go.RowKit
attribute [local irreducible] wpList
def pl : List Nat := [2, 3, 5, 7, 11, 13, 17, 19, 23, 29, 31, 37, 41, 43, 47, 53, 59, 61, 67, 71, 73, 79, 83, 89, 97, 101, 103, 107, 109, 113, 127, 131, 137, 139, 149, 151, 157, 163, 167, 173, 179, 181, 191, 193, 197, 199, 211, 223, 227, 229, 233, 239, 241, 251, 257, 263, 269, 271, 277, 281, 283, 293, 307, 311, 313, 317, 331, 337, 347, 349, 353, 359, 367, 373, 379, 383, 389, 397, 401, 409]
def pr (i : Nat) : Nat := pl.getD i 0
theorem cnt_409 : cnt 409 = 80 := by decide +kernel
/-- the table's numbers: each is the next good one -/
def chk : Nat → List Nat → Nat → Nat → Bool
  | 0, l, _, _ => l.isEmpty
  | f + 1, l, n, c => match l with
    | [] => true
    | p :: r => if goodN n then (if n = p then chk f r (n + 1) (c + 1) else false) else chk f (p :: r) (n + 1) c
theorem chk_pl : chk 500 pl 2 0 = true := by decide +kernel
theorem chk_spec : ∀ (f : Nat) (l : List Nat) (n c : Nat), chk f l (n + 2) c = true → cnt (n + 1) = c → ∀ i, i < l.length → ∃ p, l.getD i 0 = p + 1 ∧ cnt (p + 1) = c + i + 1 ∧ cnt p = c + i
  | 0, l, n, c, h, _, i, hi => by
    have : l = [] := by simpa [chk] using h
    subst this; simp at hi
  | f + 1, [], n, c, _, _, i, hi => by simp at hi
  | f + 1, p :: r, n, c, h, hc, i, hi => by
    unfold chk at h
    by_cases hg : goodN (n + 2) = true
    · simp only [hg, if_true] at h
      by_cases hp : n + 2 = p
      · rw [if_pos hp] at h
        have hc2 : cnt (n + 2) = c + 1 := by show cnt (n + 1) + _ = _; rw [hc, if_pos hg]
        cases i with
        | zero => exact ⟨n + 1, by rw [← hp]; rfl, by rw [hc2], by rw [hc]; rfl⟩
        | succ i =>
          obtain ⟨q, h1, h2, h3⟩ := chk_spec f r (n + 1) (c + 1) h hc2 i (by simpa using hi)
          exact ⟨q, by simpa using h1, by rw [h2]; omega, by rw [h3]; omega⟩
      · rw [if_neg hp] at h; cases h
    · have hc2 : cnt (n + 2) = c := by show cnt (n + 1) + _ = _; rw [hc, if_neg hg]; rfl
      have h' : chk f (p :: r) (n + 1 + 2) c = true := by simpa [hg] using h
      exact chk_spec f (p :: r) (n + 1) c h' hc2 i hi
theorem pr_spec {i : Nat} (hi : i < 80) : ∃ p, pr i = p + 1 ∧ cnt (p + 1) = i + 1 ∧ cnt p = i := by
  obtain ⟨p, h1, h2, h3⟩ := chk_spec 500 pl 0 0 chk_pl rfl i hi
  exact ⟨p, h1, by rw [h2, Nat.zero_add], by rw [h3, Nat.zero_add]⟩
theorem pr_lt : ∀ i, i < 80 → pr i < 65536 := by decide +kernel
theorem below_409 {i n : Nat} (hi : i < 80) (h : cnt n ≤ i) : n < 409 := by
  refine Nat.lt_of_not_le fun h2 => ?_
  have := cnt_mono h2
  rw [cnt_409] at this
  omega
theorem cnt_step (n : Nat) (hn : 1 ≤ n) : cnt (n + 1) = cnt n + if goodN (n + 1) then 1 else 0 := by
  obtain ⟨m, rfl⟩ : ∃ m, n = m + 1 := ⟨n - 1, by omega⟩
  rfl
theorem goodTo_k {n k : Nat} (h2 : 2 ≤ k) (hk : k * k ≤ n) : goodTo n (k + 1) = (goodTo n k && decide (n % k ≠ 0)) := by
  show (goodTo n k && (decide (k < 2) || decide (n < k * k) || decide (n % k ≠ 0))) = _
  rw [decide_eq_false (by omega : ¬ k < 2), decide_eq_false (by omega : ¬ n < k * k), Bool.false_or, Bool.false_or]
theorem goodTo_end {n k : Nat} (hn : n ≤ 409) (hk : n < k * k) (hk2 : k ≤ 32) : goodTo n k = goodN n := (goodTo_more hk hk2).symm
theorem sq_small {n k : Nat} (hn : n ≤ 409) (hk : k * k ≤ n) : k ≤ 20 := by
  refine Nat.le_of_not_lt fun h => ?_
  have := Nat.mul_le_mul h h
  omega
theorem run_leE {w : World} {o : Oper} {a : Act} {x y : Operand} {t t' : TypeId} {p q : Nat} {b : Bool} (hb : decide (p ≤ q) = b) (ho : o.op = .binOp .leq t x y t') (hx : a.eval x = .int .i64 (p : Int)) (hy : a.eval y = .int .i64 (q : Int)) : (execOp a.eval o).run Tryd.prog w = .ok (.value (.bool b)) w := by
  subst hb
  simp only [execOp, ho, hx, hy, eqGuard, binOp, Sem.run_bind]
  simp [go_sem, Sem.run_bind]
theorem run_geZ {w : World} {o : Oper} {a : Act} {x y : Operand} {t t' : TypeId} {p : Int} {b : Bool} (hb : decide (0 ≤ p) = b) (ho : o.op = .binOp .geq t x y t') (hx : a.eval x = .int .i64 p) (hy : a.eval y = .int .i64 0) : (execOp a.eval o).run Tryd.prog w = .ok (.value (.bool b)) w := by
  subst hb
  simp only [execOp, ho, hx, hy, eqGuard, binOp, Sem.run_bind]
  simp [go_sem, Sem.run_bind]
theorem run_subZ {w : World} {o : Oper} {a : Act} {x y : Operand} {t t' : TypeId} {p r : Int} (h : p - 1 = r) (hr : -1000 ≤ r ∧ r ≤ 1000) (ho : o.op = .binOp .sub t x y t') (hx : a.eval x = .int .i64 p) (hy : a.eval y = .int .i64 1) : (execOp a.eval o).run Tryd.prog w = .ok (.value (.int .i64 r)) w := by
  have h1 : IntKind.i64.wrap (p - 1) = r := by rw [h]; exact IntWalk.i64_in _ (by omega)
  have : (execOp a.eval o).run Tryd.prog w = .ok (.value (.int .i64 (IntKind.i64.wrap (p - 1)))) w := by simp only [execOp, ho, hx, hy]; rfl
  rw [this, h1]

set_option maxRecDepth 100000 in
set_option maxHeartbeats 1500000 in
theorem bPrime_c (i : Nat) (hi : i < 80) (w : World) :
    Calls Tryd.prog 17 #[.int .i64 (i : Int)] w fun e w' => Ret (.int .i64 ((pr i : Nat) : Int)) w w' e := by
  have off0 : Off [] w w := Off.refl _ _
  have sz := off0.size
  go_enter Tryd.func17, Tryd.ntmps17
  go_wp2_with fail
  go_loopw [0, 3] (fun st sn wr => ∃ (n : Nat), (st = .int .i64 ((i : Int) - ((cnt n : Nat) : Int))) ∧ (sn = .int .i64 (n : Int)) ∧ (1 ≤ n) ∧ (n = 1 ∨ ∃ m, n = m + 1 ∧ cnt m ≤ i) ∧ Off [] w wr)
    (fun st sn _ => 410 - (intOf sn).toNat)
  case atStart => exact ⟨1, (by show Value.int .i64 (i : Int) = .int .i64 ((i : Int) - 0); rw [Int.sub_zero]), rfl, Nat.le_refl _, .inl rfl, off0⟩
  case round =>
    obtain ⟨n, rfl, rfl, hn1, hpv, off0⟩ := hrel
    obtain ⟨W1, eW_⟩ := wname off0
    subst eW_
    have sz := off0.size
    by_cases hcn : cnt n ≤ i
    · have _f := hcn
      have hn409 := below_409 hi hcn
      go_upto_region 2 with fail
      refine wp_region_lit ?_
      (refine wpL_val (v := ?_) (by rfl) ?_ ?_; rotate_left 1; (focus (go_simp; first | done | with_reducible rfl)))
      (try simp only [Act.put, List.setIfInBounds_toArray, List.set_cons_zero, List.set_cons_succ])
      refine wpL_val (v := .bool true) (by rfl) (by exact run_geZ (by rw [decide_eq_true]; omega) rfl rfl rfl) ?_
      (try simp only [Act.put, List.setIfInBounds_toArray, List.set_cons_zero, List.set_cons_succ])
      refine wpL_nil ?_
      go_upto_region 3 with fail
      refine wp_region_lit ?_
      (refine wpL_val (v := ?_) (by rfl) ?_ ?_; rotate_left 1; (focus (go_simp; first | done | with_reducible rfl)))
      (try simp only [Act.put, List.setIfInBounds_toArray, List.set_cons_zero, List.set_cons_succ])
      refine wpL_val (v := .int .i64 ((n + 1 : Nat) : Int)) (by rfl) (by exact run_addE (p := n) (q := 1) rfl (by omega) rfl rfl rfl) ?_
      (try simp only [Act.put, List.setIfInBounds_toArray, List.set_cons_zero, List.set_cons_succ])
      (refine wpL_val (v := ?_) (by rfl) ?_ ?_; rotate_left 1; (focus (go_simp; first | done | with_reducible rfl)))
      (try simp only [Act.put, List.setIfInBounds_toArray, List.set_cons_zero, List.set_cons_succ])
      refine wpL_nil ?_
      go_wp2_with fail
      go_loopw [4, 5] (fun sw sk wr => ∃ (k : Nat), (sw = .bool (goodTo (n + 1) k)) ∧ (sk = .int .i64 (k : Int)) ∧ (2 ≤ k) ∧ (k ≤ 21) ∧ Off [] w wr)
        (fun sw sk _ => 33 - (intOf sk).toNat)
      case atStart => exact ⟨2, rfl, rfl, Nat.le_refl _, by decide, off0⟩
      case round =>
        obtain ⟨k, rfl, rfl, hk2, hk3, off0⟩ := hrel
        obtain ⟨W2, eW_⟩ := wname off0
        subst eW_
        have sz := off0.size
        by_cases hkn : k * k ≤ n + 1
        · have _f := hkn
          have hk20 := sq_small (show n + 1 ≤ 409 by omega) hkn
          go_upto_region 6 with fail
          refine wp_region_lit ?_
          (refine wpL_val (v := ?_) (by rfl) ?_ ?_; rotate_left 1; (focus (go_simp; first | done | with_reducible rfl)))
          (try simp only [Act.put, List.setIfInBounds_toArray, List.set_cons_zero, List.set_cons_succ])
          (refine wpL_val (v := ?_) (by rfl) ?_ ?_; rotate_left 1; (focus (go_simp; first | done | with_reducible rfl)))
          (try simp only [Act.put, List.setIfInBounds_toArray, List.set_cons_zero, List.set_cons_succ])
          refine wpL_val (v := .int .i64 ((k * k : Nat) : Int)) (by rfl) (by exact run_mulE (p := k) (q := k) rfl (by have := Nat.mul_le_mul hk3 hk3; omega) rfl rfl rfl) ?_
          (try simp only [Act.put, List.setIfInBounds_toArray, List.set_cons_zero, List.set_cons_succ])
          (refine wpL_val (v := ?_) (by rfl) ?_ ?_; rotate_left 1; (focus (go_simp; first | done | with_reducible rfl)))
          (try simp only [Act.put, List.setIfInBounds_toArray, List.set_cons_zero, List.set_cons_succ])
          refine wpL_val (v := .bool true) (by rfl) (by exact run_leE (by rw [decide_eq_true hkn]) rfl rfl rfl) ?_
          (try simp only [Act.put, List.setIfInBounds_toArray, List.set_cons_zero, List.set_cons_succ])
          refine wpL_nil ?_
          by_cases hw : goodTo (n + 1) k = true
          · have _f := hw
            have H_hw := Lib.hid hw
            clear _f hw
            rw [H_hw.out]
            by_cases hr : ¬ (n + 1) % k = 0
            · have _f := hr
              have H_hr := Lib.hid hr
              clear _f hr
              go_upto_region 8 with fail
              refine wp_region_lit ?_
              refine wpL_val (v := .bool true) (by rfl) (by first | rfl | (go_simp; done) | (go_simp; with_reducible rfl) | (go_simp; omega)) ?_
              (try simp only [Act.put, List.setIfInBounds_toArray, List.set_cons_zero, List.set_cons_succ])
              refine wpL_val (v := .bool true) (by rfl) (by first | rfl | (go_simp; done) | (go_simp; with_reducible rfl) | (go_simp; omega)) ?_
              (try simp only [Act.put, List.setIfInBounds_toArray, List.set_cons_zero, List.set_cons_succ])
              (refine wpL_val (v := ?_) (by rfl) ?_ ?_; rotate_left 1; (focus (go_simp; first | done | with_reducible rfl)))
              (try simp only [Act.put, List.setIfInBounds_toArray, List.set_cons_zero, List.set_cons_succ])
              (refine wpL_val (v := ?_) (by rfl) ?_ ?_; rotate_left 1; (focus (go_simp; first | done | with_reducible rfl)))
              (try simp only [Act.put, List.setIfInBounds_toArray, List.set_cons_zero, List.set_cons_succ])
              refine wpL_val (v := .int .i64 (((n + 1) % k : Nat) : Int)) (by rfl) (by exact run_remN (m := k) (by omega) (by omega) rfl rfl rfl) ?_
              (try simp only [Act.put, List.setIfInBounds_toArray, List.set_cons_zero, List.set_cons_succ])
              refine wpL_val (v := .bool true) (by rfl) (by exact run_neE (q := 0) (by rw [decide_eq_false H_hr.out]; rfl) Tryd.underlying3 rfl rfl rfl) ?_
              (try simp only [Act.put, List.setIfInBounds_toArray, List.set_cons_zero, List.set_cons_succ])
              refine wpL_val (v := .bool true) (by rfl) (by first | rfl | (go_simp; done) | (go_simp; with_reducible rfl) | (go_simp; omega)) ?_
              (try simp only [Act.put, List.setIfInBounds_toArray, List.set_cons_zero, List.set_cons_succ])
              refine wpL_val (v := .bool true) (by rfl) (by first | rfl | (go_simp; done) | (go_simp; with_reducible rfl) | (go_simp; omega)) ?_
              (try simp only [Act.put, List.setIfInBounds_toArray, List.set_cons_zero, List.set_cons_succ])
              refine wpL_nil ?_
              go_wp2
              go_roundw
              case rel => exact ⟨k + 1, (by rw [goodTo_k hk2 hkn, H_hw.out, decide_eq_true H_hr.out]; rfl), rfl, by omega, by omega, off0⟩
              case measure => first | (simp [intOf]; done) | (simp [intOf]; omega)
            · have _f := hr
              have H_hr := Lib.hid hr
              clear _f hr
              go_upto_region 8 with fail
              refine wp_region_lit ?_
              refine wpL_val (v := .bool true) (by rfl) (by first | rfl | (go_simp; done) | (go_simp; with_reducible rfl) | (go_simp; omega)) ?_
              (try simp only [Act.put, List.setIfInBounds_toArray, List.set_cons_zero, List.set_cons_succ])
              refine wpL_val (v := .bool true) (by rfl) (by first | rfl | (go_simp; done) | (go_simp; with_reducible rfl) | (go_simp; omega)) ?_
              (try simp only [Act.put, List.setIfInBounds_toArray, List.set_cons_zero, List.set_cons_succ])
              (refine wpL_val (v := ?_) (by rfl) ?_ ?_; rotate_left 1; (focus (go_simp; first | done | with_reducible rfl)))
              (try simp only [Act.put, List.setIfInBounds_toArray, List.set_cons_zero, List.set_cons_succ])
              (refine wpL_val (v := ?_) (by rfl) ?_ ?_; rotate_left 1; (focus (go_simp; first | done | with_reducible rfl)))
              (try simp only [Act.put, List.setIfInBounds_toArray, List.set_cons_zero, List.set_cons_succ])
              refine wpL_val (v := .int .i64 (((n + 1) % k : Nat) : Int)) (by rfl) (by exact run_remN (m := k) (by omega) (by omega) rfl rfl rfl) ?_
              (try simp only [Act.put, List.setIfInBounds_toArray, List.set_cons_zero, List.set_cons_succ])
              refine wpL_val (v := .bool false) (by rfl) (by exact run_neE (q := 0) (by rw [decide_eq_true (Decidable.of_not_not H_hr.out)]; rfl) Tryd.underlying3 rfl rfl rfl) ?_
              (try simp only [Act.put, List.setIfInBounds_toArray, List.set_cons_zero, List.set_cons_succ])
              refine wpL_val (v := .bool false) (by rfl) (by first | rfl | (go_simp; done) | (go_simp; with_reducible rfl) | (go_simp; omega)) ?_
              (try simp only [Act.put, List.setIfInBounds_toArray, List.set_cons_zero, List.set_cons_succ])
              refine wpL_val (v := .bool false) (by rfl) (by first | rfl | (go_simp; done) | (go_simp; with_reducible rfl) | (go_simp; omega)) ?_
              (try simp only [Act.put, List.setIfInBounds_toArray, List.set_cons_zero, List.set_cons_succ])
              refine wpL_nil ?_
              go_wp2
              go_roundw
              case rel => exact ⟨k + 1, (by rw [goodTo_k hk2 hkn, H_hw.out, decide_eq_false H_hr.out]; rfl), rfl, by omega, by omega, off0⟩
              case measure => first | (simp [intOf]; done) | (simp [intOf]; omega)
          · have _f := hw
            have H_hw := Lib.hid hw
            clear _f hw
            rw [Bool.eq_false_iff.2 H_hw.out]
            go_upto_region 8 with fail
            refine wp_region_lit ?_
            refine wpL_val (v := .bool false) (by rfl) (by first | rfl | (go_simp; done) | (go_simp; with_reducible rfl) | (go_simp; omega)) ?_
            (try simp only [Act.put, List.setIfInBounds_toArray, List.set_cons_zero, List.set_cons_succ])
            refine wpL_val (v := .bool false) (by rfl) (by first | rfl | (go_simp; done) | (go_simp; with_reducible rfl) | (go_simp; omega)) ?_
            (try simp only [Act.put, List.setIfInBounds_toArray, List.set_cons_zero, List.set_cons_succ])
            refine wpL_skip (by rfl) ?_
            (try simp only [Act.put, List.setIfInBounds_toArray, List.set_cons_zero, List.set_cons_succ])
            refine wpL_skip (by rfl) ?_
            (try simp only [Act.put, List.setIfInBounds_toArray, List.set_cons_zero, List.set_cons_succ])
            refine wpL_skip (by rfl) ?_
            (try simp only [Act.put, List.setIfInBounds_toArray, List.set_cons_zero, List.set_cons_succ])
            refine wpL_skip (by rfl) ?_
            (try simp only [Act.put, List.setIfInBounds_toArray, List.set_cons_zero, List.set_cons_succ])
            refine wpL_val (v := .bool false) (by rfl) (by first | rfl | (go_simp; done) | (go_simp; with_reducible rfl) | (go_simp; omega)) ?_
            (try simp only [Act.put, List.setIfInBounds_toArray, List.set_cons_zero, List.set_cons_succ])
            refine wpL_val (v := .bool false) (by rfl) (by first | rfl | (go_simp; done) | (go_simp; with_reducible rfl) | (go_simp; omega)) ?_
            (try simp only [Act.put, List.setIfInBounds_toArray, List.set_cons_zero, List.set_cons_succ])
            refine wpL_nil ?_
            go_wp2
            go_roundw
            case rel => exact ⟨k + 1, (by rw [goodTo_k hk2 hkn, Bool.eq_false_iff.2 H_hw.out]; rfl), rfl, by omega, by omega, off0⟩
            case measure => first | (simp [intOf]; done) | (simp [intOf]; omega)
        · have _f := hkn
          go_upto_region 6 with fail
          refine wp_region_lit ?_
          (refine wpL_val (v := ?_) (by rfl) ?_ ?_; rotate_left 1; (focus (go_simp; first | done | with_reducible rfl)))
          (try simp only [Act.put, List.setIfInBounds_toArray, List.set_cons_zero, List.set_cons_succ])
          (refine wpL_val (v := ?_) (by rfl) ?_ ?_; rotate_left 1; (focus (go_simp; first | done | with_reducible rfl)))
          (try simp only [Act.put, List.setIfInBounds_toArray, List.set_cons_zero, List.set_cons_succ])
          refine wpL_val (v := .int .i64 ((k * k : Nat) : Int)) (by rfl) (by exact run_mulE (p := k) (q := k) rfl (by have := Nat.mul_le_mul hk3 hk3; omega) rfl rfl rfl) ?_
          (try simp only [Act.put, List.setIfInBounds_toArray, List.set_cons_zero, List.set_cons_succ])
          (refine wpL_val (v := ?_) (by rfl) ?_ ?_; rotate_left 1; (focus (go_simp; first | done | with_reducible rfl)))
          (try simp only [Act.put, List.setIfInBounds_toArray, List.set_cons_zero, List.set_cons_succ])
          refine wpL_val (v := .bool false) (by rfl) (by exact run_leE (by rw [decide_eq_false hkn]) rfl rfl rfl) ?_
          (try simp only [Act.put, List.setIfInBounds_toArray, List.set_cons_zero, List.set_cons_succ])
          refine wpL_nil ?_
          rw [goodTo_end (by omega) (by omega) (by omega)]
          by_cases hg : goodN (n + 1) = true
          · have _f := hg
            have H_hg := Lib.hid hg
            clear _f hg
            rw [H_hg.out]
            go_upto_region 10 with fail
            refine wp_region_lit ?_
            (refine wpL_val (v := ?_) (by rfl) ?_ ?_; rotate_left 1; (focus (go_simp; first | done | with_reducible rfl)))
            (try simp only [Act.put, List.setIfInBounds_toArray, List.set_cons_zero, List.set_cons_succ])
            refine wpL_val (v := .int .i64 ((i : Int) - ((cnt n + 1 : Nat) : Int))) (by rfl) (by exact run_subZ (by omega) (by omega) rfl rfl rfl) ?_
            (try simp only [Act.put, List.setIfInBounds_toArray, List.set_cons_zero, List.set_cons_succ])
            (refine wpL_val (v := ?_) (by rfl) ?_ ?_; rotate_left 1; (focus (go_simp; first | done | with_reducible rfl)))
            (try simp only [Act.put, List.setIfInBounds_toArray, List.set_cons_zero, List.set_cons_succ])
            refine wpL_nil ?_
            go_wp2
            go_roundw
            case rel => exact ⟨n + 1, (by rw [cnt_step n hn1, if_pos H_hg.out]; rfl), rfl, by omega, .inr ⟨n, rfl, hcn⟩, off0⟩
            case measure => first | (simp [intOf]; done) | (simp [intOf]; omega)
          · have _f := hg
            have H_hg := Lib.hid hg
            clear _f hg
            rw [Bool.eq_false_iff.2 H_hg.out]
            go_wp2
            go_roundw
            case rel => exact ⟨n + 1, (by rw [cnt_step n hn1, if_neg H_hg.out]; rfl), rfl, by omega, .inr ⟨n, rfl, hcn⟩, off0⟩
            case measure => first | (simp [intOf]; done) | (simp [intOf]; omega)
    · have _f := hcn
      go_upto_region 2 with fail
      refine wp_region_lit ?_
      (refine wpL_val (v := ?_) (by rfl) ?_ ?_; rotate_left 1; (focus (go_simp; first | done | with_reducible rfl)))
      (try simp only [Act.put, List.setIfInBounds_toArray, List.set_cons_zero, List.set_cons_succ])
      refine wpL_val (v := .bool false) (by rfl) (by exact run_geZ (by rw [decide_eq_false]; omega) rfl rfl rfl) ?_
      (try simp only [Act.put, List.setIfInBounds_toArray, List.set_cons_zero, List.set_cons_succ])
      refine wpL_nil ?_
      obtain ⟨p, hp1, hp2, hp3⟩ := pr_spec hi
      have hcn1 : cnt n = i + 1 ∧ ∃ m, n = m + 1 ∧ cnt m = i := by
          rcases hpv with h | ⟨m, rfl, hm⟩
          · exfalso; rw [h] at hcn; have : cnt 1 = 0 := rfl; omega
          · have h1 := cnt_mono (show m ≤ m + 1 by omega)
            have h2 : cnt (m + 1) ≤ cnt m + 1 := by
              cases m with
              | zero => exact Nat.zero_le _
              | succ m => rw [cnt_step (m + 1) (by omega)]; split <;> omega
            exact ⟨by omega, m, rfl, by omega⟩
      obtain ⟨hc1, m, rfl, hc2⟩ := hcn1
      have hmp := cnt_uniq hc1 hc2 hp2 hp3
      go_wp2
      rw [hp1, ← hmp]
      exact bodyPost_ret (v := .int .i64 ((m + 1 : Nat) : Int)) (by simp only [results, Tryd.results17]; go_simp) rfl ⟨rfl, off0.ext⟩
end Go.Proofs.YtfkhogeaadldnaaDoor
