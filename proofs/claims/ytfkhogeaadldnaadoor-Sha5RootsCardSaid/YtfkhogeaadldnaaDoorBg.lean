/- Numbers of parts of 16 bits: products part by part, less, roots' bits; primes by trial. No conditions. -/
import Derived.Test.YtfkhogeaadldnaaDoorGc
import Derived.Laws.BitsLemmas
import Derived.IntWalk
namespace Go.Proofs.YtfkhogeaadldnaaDoor
set_option linter.unusedSimpArgs false
set_option linter.unusedVariables false
open Go.RowKit

def dgt (N j : Nat) : Nat := N / 2 ^ (16 * j) % 65536
theorem l16_dgt (N j : Nat) : l16 N j = ((dgt N j : Nat) : Int) := rfl
theorem dgt_lt (N j : Nat) : dgt N j < 65536 := Nat.mod_lt _ (by decide)
def setd (N m e : Nat) : Nat := N / 2 ^ (16 * (m + 1)) * 2 ^ (16 * (m + 1)) + e * 2 ^ (16 * m) + N % 2 ^ (16 * m)
theorem pw16 (m : Nat) : (2 : Nat) ^ (16 * (m + 1)) = 2 ^ (16 * m) * 65536 := by rw [Nat.mul_add, Nat.pow_add]
theorem dgt_mod {N j m : Nat} (h : j < m) : dgt (N % 2 ^ (16 * m)) j = dgt N j := by
  unfold dgt
  obtain ⟨d, rfl⟩ : ∃ d, m = j + 1 + d := ⟨m - j - 1, by omega⟩
  rw [show 16 * (j + 1 + d) = 16 * j + (16 + 16 * d) by omega, Nat.pow_add 2 (16 * j), Nat.mod_mul_right_div_self, Nat.pow_add 2 16, Nat.mod_mul_right_mod]
theorem split_d (N m : Nat) : N = N / 2 ^ (16 * (m + 1)) * 2 ^ (16 * (m + 1)) + dgt N m * 2 ^ (16 * m) + N % 2 ^ (16 * m) := by
  have h1 := Nat.div_add_mod N (2 ^ (16 * m))
  have h2 := Nat.div_add_mod (N / 2 ^ (16 * m)) 65536
  rw [Nat.div_div_eq_div_mul, ← pw16] at h2
  have h3 : N / 2 ^ (16 * (m + 1)) * 2 ^ (16 * (m + 1)) = 2 ^ (16 * m) * (65536 * (N / 2 ^ (16 * (m + 1)))) := by rw [← Nat.mul_assoc, ← pw16, Nat.mul_comm]
  have h4 : dgt N m * 2 ^ (16 * m) = 2 ^ (16 * m) * dgt N m := Nat.mul_comm _ _
  rw [h3, h4, ← Nat.mul_add]
  unfold dgt
  rw [h2, h1]
theorem setd_add (N m e : Nat) : setd N m e + dgt N m * 2 ^ (16 * m) = N + e * 2 ^ (16 * m) := by
  have h := split_d N m
  unfold setd
  omega
theorem setd_form (N m e : Nat) : setd N m e = (N / 2 ^ (16 * (m + 1)) * 65536 + e) * 2 ^ (16 * m) + N % 2 ^ (16 * m) := by
  unfold setd
  rw [Nat.add_mul, pw16, Nat.mul_assoc, Nat.mul_comm 65536]
theorem dgt_setd {N m e : Nat} (he : e < 65536) (j : Nat) : dgt (setd N m e) j = if j = m then e else dgt N j := by
  have hp := Nat.two_pow_pos (16 * m)
  have hl := Nat.mod_lt N hp
  have hq : setd N m e / 2 ^ (16 * m) = N / 2 ^ (16 * (m + 1)) * 65536 + e := by
    rw [setd_form, Nat.mul_comm, Nat.mul_add_div hp, Nat.div_eq_of_lt hl, Nat.add_zero]
  have hm : setd N m e % 2 ^ (16 * m) = N % 2 ^ (16 * m) := by
    rw [setd_form, Nat.mul_comm, Nat.mul_add_mod, Nat.mod_mod]
  by_cases h : j = m
  · subst h
    rw [if_pos rfl]
    unfold dgt
    rw [hq]
    omega
  · rw [if_neg h]
    by_cases h2 : j < m
    · rw [← dgt_mod h2, hm, dgt_mod h2]
    · obtain ⟨d, rfl⟩ : ∃ d, j = m + 1 + d := ⟨j - m - 1, by omega⟩
      unfold dgt
      have e1 : ∀ X : Nat, X / 2 ^ (16 * (m + 1 + d)) = X / 2 ^ (16 * m) / 65536 / 2 ^ (16 * d) := fun X => by
        rw [Nat.div_div_eq_div_mul, Nat.div_div_eq_div_mul, show 16 * (m + 1 + d) = 16 * m + (16 + 16 * d) by omega, Nat.pow_add, Nat.pow_add 2 16]
      rw [e1, e1, hq, Nat.div_div_eq_div_mul N, ← pw16, show (N / 2 ^ (16 * (m + 1)) * 65536 + e) / 65536 = N / 2 ^ (16 * (m + 1)) by omega]
theorem upd_setd (N m e : Nat) (he : e < 65536) : arrK .i64 28 (upd (l16 N) m (e : Int)) = arrK .i64 28 (l16 (setd N m e)) := by
  apply arrK_congr
  intro j _
  rw [l16_dgt, dgt_setd he]
  by_cases h : j = m
  · subst h; rw [upd_same, if_pos rfl]
  · rw [upd_other _ _ _ _ h, if_neg h]; rfl
/-- one step of a product -/
theorem bg_step {N A B C0 i k over S : Nat} (hS : S = dgt N (i + k) + dgt A i * dgt B k + over) (h : N + over * 2 ^ (16 * (i + k)) = C0 + dgt A i * 2 ^ (16 * i) * (B % 2 ^ (16 * k))) :
    setd N (i + k) (S % 65536) + S / 65536 * 2 ^ (16 * (i + (k + 1))) = C0 + dgt A i * 2 ^ (16 * i) * (B % 2 ^ (16 * (k + 1))) := by
  have h1 := setd_add N (i + k) (S % 65536)
  have h2 : B % 2 ^ (16 * (k + 1)) = B % 2 ^ (16 * k) + 2 ^ (16 * k) * dgt B k := by rw [pw16, Nat.mod_mul]; rfl
  have h3 := Nat.div_add_mod S 65536
  have h4 : dgt A i * 2 ^ (16 * i) * (2 ^ (16 * k) * dgt B k) = dgt A i * dgt B k * 2 ^ (16 * (i + k)) := by
    rw [Nat.mul_add 16, Nat.pow_add]
    simp only [Nat.mul_comm, Nat.mul_left_comm, Nat.mul_assoc]
  have h7 : dgt A i * 2 ^ (16 * i) * (B % 2 ^ (16 * k) + 2 ^ (16 * k) * dgt B k) = dgt A i * 2 ^ (16 * i) * (B % 2 ^ (16 * k)) + dgt A i * dgt B k * 2 ^ (16 * (i + k)) := by rw [Nat.mul_add, h4]
  rw [h2, h7, ← Nat.add_assoc C0, ← h, ← Nat.add_assoc i k 1, pw16]
  generalize 2 ^ (16 * (i + k)) = P at *
  generalize setd N (i + k) (S % 65536) = N' at *
  have h5 : S / 65536 * (P * 65536) + S % 65536 * P = S * P := by
    rw [← Nat.mul_assoc, Nat.mul_comm (S / 65536) P, Nat.mul_assoc, Nat.mul_comm (S % 65536) P, ← Nat.mul_add, Nat.mul_comm P]
    congr 1
    omega
  have h6 : S * P = dgt N (i + k) * P + dgt A i * dgt B k * P + over * P := by rw [hS, Nat.add_mul, Nat.add_mul]
  omega
theorem over_lt {N A B i k over S : Nat} (hS : S = dgt N (i + k) + dgt A i * dgt B k + over) (ho : over < 65536) : S < 4294967296 ∧ S / 65536 < 65536 := by
  have h1 := dgt_lt N (i + k)
  have h2 := dgt_lt A i
  have h3 := dgt_lt B k
  have h4 : dgt A i * dgt B k ≤ 65535 * 65535 := Nat.mul_le_mul (by omega) (by omega)
  omega
def q28 : Nat := 2 ^ (16 * 28)
theorem q28_eq : q28 = 2 ^ (16 * 28) := by rw [q28]
theorem le448 {n : Nat} (h : n ≤ 192) : 65536 * 2 ^ n ≤ 2 ^ (16 * 28) := by
  have e : 65536 * 2 ^ n = 2 ^ (16 + n) := by rw [Nat.pow_add]
  have h2 : 16 + n ≤ 16 * 28 := by omega
  generalize 16 * 28 = M at *
  exact Nat.le_trans (Nat.le_of_eq e) (Nat.pow_le_pow_right (by decide) h2)
theorem q28_pos : 0 < q28 := by rw [q28_eq]; generalize 16 * 28 = M; exact Nat.two_pow_pos M
/-- a row of steps -/
theorem bg_row {N A B C0 i over : Nat} (hi : i ≤ 28) (hC : C0 = (A % 2 ^ (16 * i)) * B % q28) (h : N + over * 2 ^ (16 * (i + (28 - i))) = C0 + dgt A i * 2 ^ (16 * i) * (B % 2 ^ (16 * (28 - i)))) :
    N % q28 = (A % 2 ^ (16 * (i + 1))) * B % q28 := by
  have e1 : 16 * (i + (28 - i)) = 16 * 28 := by clear h hC; omega
  rw [e1, ← q28_eq] at h
  have e2 : N % q28 = (C0 + dgt A i * 2 ^ (16 * i) * (B % 2 ^ (16 * (28 - i)))) % q28 := by rw [← h, Nat.add_mul_mod_self_right]
  have e3 : dgt A i * 2 ^ (16 * i) * B = dgt A i * 2 ^ (16 * i) * (B % 2 ^ (16 * (28 - i))) + q28 * (dgt A i * (B / 2 ^ (16 * (28 - i)))) := by
    have h1 := Nat.div_add_mod B (2 ^ (16 * (28 - i)))
    have h2 : q28 = 2 ^ (16 * i) * 2 ^ (16 * (28 - i)) := by rw [q28_eq, ← Nat.pow_add]; congr 1; omega
    rw [h2]
    generalize B / 2 ^ (16 * (28 - i)) = q at *
    generalize B % 2 ^ (16 * (28 - i)) = r at *
    generalize 2 ^ (16 * (28 - i)) = P at *
    subst h1
    clear h2 h e2 hC e1 hi
    rw [Nat.mul_add]
    have : dgt A i * 2 ^ (16 * i) * (P * q) = 2 ^ (16 * i) * P * (dgt A i * q) := by simp only [Nat.mul_comm, Nat.mul_left_comm, Nat.mul_assoc]
    omega
  have e4 : (A % 2 ^ (16 * (i + 1))) * B = (A % 2 ^ (16 * i)) * B + dgt A i * 2 ^ (16 * i) * B := by
    rw [pw16, Nat.mod_mul, Nat.add_mul, Nat.mul_comm (2 ^ (16 * i))]; rfl
  clear h e1
  generalize q28 = M at *
  rw [e2, e4, hC, Nat.mod_add_mod, e3, ← Nat.add_assoc, Nat.add_mul_mod_self_left]
theorem m448_0 (A B : Nat) : A % 2 ^ (16 * 0) * B % q28 = 0 := by
  generalize q28 = M
  rw [Nat.mul_zero, Nat.pow_zero, Nat.mod_one, Nat.zero_mul, Nat.zero_mod]
theorem arr_mod (N : Nat) : arrK .i64 28 (l16 N) = arrK .i64 28 (l16 (N % q28)) := by
  apply arrK_congr
  intro j hj
  rw [l16_dgt, l16_dgt, q28_eq, dgt_mod hj]
/-! ### less -/
theorem less_step {A B j : Nat} (h : A / 2 ^ (16 * (j + 1)) = B / 2 ^ (16 * (j + 1))) (hd : ¬ dgt A j = dgt B j) : decide (dgt A j < dgt B j) = decide (A < B) := by
  have h1 := split_d A j
  have h2 := split_d B j
  rw [h] at h1
  have hp := Nat.two_pow_pos (16 * j)
  have l1 := Nat.mod_lt A hp
  have l2 := Nat.mod_lt B hp
  generalize A % 2 ^ (16 * j) = a at *
  generalize B % 2 ^ (16 * j) = b at *
  generalize 2 ^ (16 * j) = P at *
  generalize B / 2 ^ (16 * (j + 1)) * 2 ^ (16 * (j + 1)) = q at *
  generalize dgt A j = x at *
  generalize dgt B j = y at *
  clear h
  rw [Bool.eq_iff_iff, decide_eq_true_iff, decide_eq_true_iff]
  rcases Nat.lt_or_gt_of_ne hd with hlt | hlt
  · have : (x + 1) * P ≤ y * P := Nat.mul_le_mul_right _ hlt
    rw [Nat.add_mul] at this
    constructor
    · intro _; omega
    · intro _; exact hlt
  · have : (y + 1) * P ≤ x * P := Nat.mul_le_mul_right _ hlt
    rw [Nat.add_mul] at this
    constructor
    · intro h; omega
    · intro h; omega
theorem less_next {A B j : Nat} (h : A / 2 ^ (16 * (j + 1)) = B / 2 ^ (16 * (j + 1))) (hd : dgt A j = dgt B j) : A / 2 ^ (16 * j) = B / 2 ^ (16 * j) := by
  have e : ∀ X : Nat, X / 2 ^ (16 * j) = X / 2 ^ (16 * (j + 1)) * 65536 + dgt X j := fun X => by
    unfold dgt
    rw [pw16, ← Nat.div_div_eq_div_mul]
    omega
  rw [e, e, h, hd]
/-! ### roots -/
def rtStep (v : Nat) (cube : Bool) (i X : Nat) : Nat :=
  if v < (bif cube then (X + 2 ^ i) * (X + 2 ^ i) % q28 * (X + 2 ^ i) % q28 else (X + 2 ^ i) * (X + 2 ^ i) % q28) then X else X + 2 ^ i
def rtv (v : Nat) (cube : Bool) : Nat → Nat
  | 0 => 0
  | c + 1 => rtStep v cube (69 - c) (rtv v cube c)
theorem rtStep_cases (v : Nat) (cube : Bool) (i X : Nat) : rtStep v cube i X = X ∨ rtStep v cube i X = X + 2 ^ i := by
  unfold rtStep
  split
  · exact .inl rfl
  · exact .inr rfl
theorem rtv_low (v : Nat) (cube : Bool) : ∀ c, c ≤ 70 → rtv v cube c % 2 ^ (70 - c) = 0
  | 0, _ => Nat.zero_mod _
  | c + 1, h => by
    have ih := rtv_low v cube c (by omega)
    rw [show 70 - c = (69 - c) + 1 by omega, Nat.pow_succ] at ih
    have h1 : rtv v cube c % 2 ^ (69 - c) = 0 := by
      rw [← Nat.mod_mul_right_mod _ _ 2, ih, Nat.zero_mod]
    rw [show 70 - (c + 1) = 69 - c by omega]
    show rtStep v cube (69 - c) (rtv v cube c) % _ = 0
    rcases rtStep_cases v cube (69 - c) (rtv v cube c) with h2 | h2 <;> rw [h2]
    · exact h1
    · rw [Nat.add_mod_right]; exact h1
/-- a bit more -/
theorem bit_more {X q r : Nat} (hr : r < 16) (h : X % 2 ^ (16 * q + r + 1) = 0) : dgt X q + 2 ^ r < 65536 ∧ setd X q (dgt X q + 2 ^ r) = X + 2 ^ (16 * q + r) := by
  have hd : dgt X q % 2 ^ (r + 1) = 0 := by
    have h1 : X / 2 ^ (16 * q) % 2 ^ (r + 1) = 0 := by
      have : X % (2 ^ (16 * q) * 2 ^ (r + 1)) = 0 := by rw [← Nat.pow_add, ← Nat.add_assoc]; exact h
      rw [← Nat.mod_mul_right_div_self, this, Nat.zero_div]
    unfold dgt
    obtain ⟨d, hd⟩ : ∃ d, 16 = r + 1 + d := ⟨15 - r, by omega⟩
    have e : (65536 : Nat) = 2 ^ (r + 1) * 2 ^ d := by rw [← Nat.pow_add, ← hd]
    rw [e, Nat.mod_mul_right_mod]
    exact h1
  have hl := dgt_lt X q
  have hlt : dgt X q + 2 ^ r < 65536 := by
    obtain ⟨d, hd2⟩ : ∃ d, 16 = r + 1 + d := ⟨15 - r, by omega⟩
    have e : (65536 : Nat) = 2 ^ (r + 1) * 2 ^ d := by rw [← Nat.pow_add, ← hd2]
    have h3 := Nat.div_add_mod (dgt X q) (2 ^ (r + 1))
    rw [hd, Nat.add_zero] at h3
    have h4 : dgt X q / 2 ^ (r + 1) < 2 ^ d := Nat.div_lt_of_lt_mul (by rw [← e]; exact hl)
    have h5 : 2 ^ (r + 1) * (dgt X q / 2 ^ (r + 1) + 1) ≤ 2 ^ (r + 1) * 2 ^ d := Nat.mul_le_mul_left _ h4
    rw [Nat.mul_add, h3, ← e, Nat.pow_succ] at h5
    have := Nat.two_pow_pos r
    omega
  refine ⟨hlt, ?_⟩
  have h1 := setd_add X q (dgt X q + 2 ^ r)
  rw [Nat.add_mul, ← Nat.pow_add, Nat.add_comm r] at h1
  omega
/-! ### primes, by trial -/
def goodTo (n : Nat) : Nat → Bool
  | 0 => true
  | c + 1 => goodTo n c && (decide (c < 2) || decide (n < c * c) || decide (n % c ≠ 0))
/-- no number from 2 on, whose square is at most n, divides n -/
def goodN (n : Nat) : Bool := goodTo n 32
def cnt : Nat → Nat
  | 0 => 0
  | 1 => 0
  | n + 2 => cnt (n + 1) + if goodN (n + 2) then 1 else 0
theorem goodTo_more {n : Nat} : ∀ {c d : Nat}, n < c * c → c ≤ d → goodTo n d = goodTo n c := by
  intro c d h hd
  induction d with
  | zero => obtain rfl : c = 0 := by omega
            rfl
  | succ d ih =>
    by_cases hc : c = d + 1
    · rw [hc]
    · have hcd : c ≤ d := by omega
      have : n < d * d := Nat.lt_of_lt_of_le h (Nat.mul_le_mul hcd hcd)
      show (goodTo n d && _) = _
      rw [ih hcd, decide_eq_true this, Bool.or_true, Bool.true_or, Bool.and_true]
theorem cnt_mono : ∀ {a b : Nat}, a ≤ b → cnt a ≤ cnt b := by
  intro a b h
  induction b with
  | zero => obtain rfl : a = 0 := by omega
            exact Nat.le_refl _
  | succ b ih =>
    by_cases hb : a = b + 1
    · rw [hb]; exact Nat.le_refl _
    · refine Nat.le_trans (ih (by omega)) ?_
      cases b with
      | zero => exact Nat.le_refl _
      | succ b => exact Nat.le_add_right _ _
theorem cnt_uniq {i n p : Nat} (h1 : cnt (n + 1) = i + 1) (h2 : cnt n = i) (h3 : cnt (p + 1) = i + 1) (h4 : cnt p = i) : n = p := by
  rcases Nat.lt_trichotomy n p with h | h | h
  · have := cnt_mono (show n + 1 ≤ p from h); omega
  · exact h
  · have := cnt_mono (show p + 1 ≤ n from h); omega
theorem and_ffff (p : Nat) (hp : p < 4294967296) : bits .and .i64 (p : Int) 65535 = ((p % 65536 : Nat) : Int) := by
  have h := bits_mask .i64 63 (by decide) (fun n h0 h1 => IntWalk.i64_in n (by omega)) 16 (by decide) (p : Int) (by omega) (by omega)
  refine Eq.trans h ?_
  omega
/-! ### steps of whole numbers that are not negative -/
section
variable {w : World} {o : Oper} {a : Act} {x y : Operand} {t t' : TypeId} {p q r n : Nat} {k : IntKind} {b : Bool}
theorem run_addE (h : p + q = r) (hr : r < 9223372036854775808) (ho : o.op = .binOp .add t x y t') (hx : a.eval x = .int .i64 (p : Int)) (hy : a.eval y = .int .i64 (q : Int)) : (execOp a.eval o).run Tryd.prog w = .ok (.value (.int .i64 (r : Int))) w := by
  have h1 : IntKind.i64.wrap ((p : Int) + (q : Int)) = (r : Int) := by rw [IntWalk.i64_in _ (by omega)]; omega
  have : (execOp a.eval o).run Tryd.prog w = .ok (.value (.int .i64 (IntKind.i64.wrap ((p : Int) + (q : Int))))) w := by simp only [execOp, ho, hx, hy]; rfl
  rw [this, h1]
theorem run_mulE (h : p * q = r) (hr : r < 9223372036854775808) (ho : o.op = .binOp .mul t x y t') (hx : a.eval x = .int .i64 (p : Int)) (hy : a.eval y = .int .i64 (q : Int)) : (execOp a.eval o).run Tryd.prog w = .ok (.value (.int .i64 (r : Int))) w := by
  have e : (p : Int) * (q : Int) = (r : Int) := by rw [← h, Int.natCast_mul]
  have h1 : IntKind.i64.wrap ((p : Int) * (q : Int)) = (r : Int) := by rw [e]; exact IntWalk.i64_in _ (by omega)
  have : (execOp a.eval o).run Tryd.prog w = .ok (.value (.int .i64 (IntKind.i64.wrap ((p : Int) * (q : Int))))) w := by simp only [execOp, ho, hx, hy]; rfl
  rw [this, h1]
theorem run_and16 (hp : p < 4294967296) (ho : o.op = .binOp .and t x y t') (hx : a.eval x = .int .i64 (p : Int)) (hy : a.eval y = .int .i64 65535) : (execOp a.eval o).run Tryd.prog w = .ok (.value (.int .i64 ((p % 65536 : Nat) : Int))) w := by
  have h1 : bits .and .i64 (p : Int) 65535 = ((p % 65536 : Nat) : Int) := and_ffff p hp
  have : (execOp a.eval o).run Tryd.prog w = .ok (.value (.int .i64 (bits .and .i64 (p : Int) 65535))) w := by simp only [execOp, ho, hx, hy]; rfl
  rw [this, h1]
theorem run_shrE (hn : n ≤ 64) (h : p / 2 ^ n = r) (ho : o.op = .binOp .shr t x y t') (hx : a.eval x = .int .i64 (p : Int)) (hy : a.eval y = .int k (n : Int)) : (execOp a.eval o).run Tryd.prog w = .ok (.value (.int .i64 (r : Int))) w := by
  have h2 : min ((n : Int)).toNat IntKind.i64.bits = n := by rw [Int.toNat_natCast]; exact Nat.min_eq_left hn
  have e : (p : Int) / 2 ^ n = (r : Int) := by rw [← h, Int.natCast_ediv, Int.natCast_pow]; rfl
  have : (execOp a.eval o).run Tryd.prog w = .ok (.value (.int .i64 ((p : Int) / 2 ^ n))) w := by
    simp only [execOp, ho, hx, hy, eqGuard, binOp, Sem.run_bind]
    simp [Op.shift, h2, go_sem, Sem.run_bind]
  rw [this, e]
theorem run_shl1 (hn : n < 60) (ho : o.op = .binOp .shl t x y t') (hx : a.eval x = .int .i64 1) (hy : a.eval y = .int k (n : Int)) : (execOp a.eval o).run Tryd.prog w = .ok (.value (.int .i64 ((2 ^ n : Nat) : Int))) w := by
  have h2 : min ((n : Int)).toNat IntKind.i64.bits = n := by rw [Int.toNat_natCast]; exact Nat.min_eq_left (by show n ≤ 64; omega)
  have h3 : 2 ^ n ≤ 2 ^ 60 := Nat.pow_le_pow_right (by decide) (by omega)
  have e : IntKind.i64.wrap ((1 : Int) * 2 ^ n) = ((2 ^ n : Nat) : Int) := by
    rw [Int.one_mul, show ((2 : Int) ^ n) = ((2 ^ n : Nat) : Int) by rw [Int.natCast_pow]; rfl]
    generalize (2 : Nat) ^ n = P at h3 ⊢
    exact IntWalk.i64_in _ (by omega)
  have : (execOp a.eval o).run Tryd.prog w = .ok (.value (.int .i64 (IntKind.i64.wrap ((1 : Int) * 2 ^ n)))) w := by
    simp only [execOp, ho, hx, hy, eqGuard, binOp, Sem.run_bind]
    simp [Op.shift, h2, go_sem, Sem.run_bind]
  rw [this, e]
theorem run_neE (hb : (!decide (p = q)) = b) (hu : Tryd.prog.underlying t = some (.int k)) (ho : o.op = .binOp .neq t x y t') (hx : a.eval x = .int k (p : Int)) (hy : a.eval y = .int k (q : Int)) : (execOp a.eval o).run Tryd.prog w = .ok (.value (.bool b)) w := by
  subst hb
  have e : ((p : Int) == (q : Int)) = decide (p = q) := by rw [Bool.eq_iff_iff, beq_iff_eq, decide_eq_true_iff]; omega
  simp only [execOp, ho, hx, hy, eqGuard, binOp, Sem.run_bind]
  simp [go_sem, Sem.run_bind]
  rw [Bool.eq_iff_iff]; simp; omega
theorem run_ltE (hb : decide (p < q) = b) (ho : o.op = .binOp .lss t x y t') (hx : a.eval x = .int .i64 (p : Int)) (hy : a.eval y = .int .i64 (q : Int)) : (execOp a.eval o).run Tryd.prog w = .ok (.value (.bool b)) w := by
  subst hb
  simp only [execOp, ho, hx, hy, eqGuard, binOp, Sem.run_bind]
  simp [go_sem, Sem.run_bind]
end
end Go.Proofs.YtfkhogeaadldnaaDoor
