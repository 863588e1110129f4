/- The highest bit of 32 bytes; '==' of 32 bytes; texts of numbers' bytes. No conditions. -/
import Derived.Test.YtghajiagbfcmdaaDoorPt
import Derived.Test.YtghajiagbfcmdaaDoorGc
import Derived.Laws.BitsAllLaws
namespace Go.Proofs.YtghajiagbfcmdaaDoor
set_option linter.unusedSimpArgs false
set_option linter.unusedVariables false
open Go.RowKit

theorem and128 : ∀ a, a < 256 → a &&& 128 = if 128 ≤ a then 128 else 0 := by decide +kernel
theorem or128 : ∀ a, a < 128 → a ||| 128 = a + 128 := by decide +kernel
theorem andn128 : ∀ a, a < 256 → a &&& (255 - 128) = a % 128 := by decide +kernel
theorem and127 : ∀ a, a < 256 → a &&& 127 = a % 128 := by decide +kernel
section
variable {P : Program} {w : World} {o : Oper} {a : Act} {x y : Operand} {t t' : TypeId} {p q r : Int}
theorem run_andU (h : bits .and .u8 p q = r) (ho : o.op = .binOp .and t x y t') (hx : a.eval x = .int .u8 p) (hy : a.eval y = .int .u8 q) : (execOp a.eval o).run P w = .ok (.value (.int .u8 r)) w := by
  subst h; simp only [execOp, ho, hx, hy]; rfl
theorem run_orU (h : bits .or .u8 p q = r) (ho : o.op = .binOp .or t x y t') (hx : a.eval x = .int .u8 p) (hy : a.eval y = .int .u8 q) : (execOp a.eval o).run P w = .ok (.value (.int .u8 r)) w := by
  subst h; simp only [execOp, ho, hx, hy]; rfl
theorem run_andnU (h : bits .andNot .u8 p q = r) (ho : o.op = .binOp .andNot t x y t') (hx : a.eval x = .int .u8 p) (hy : a.eval y = .int .u8 q) : (execOp a.eval o).run P w = .ok (.value (.int .u8 r)) w := by
  subst h; simp only [execOp, ho, hx, hy]; rfl
end
theorem byt31 {V : Nat} (hV : V < 2 ^ 256) : byt V 31 = ((V / 2 ^ 248 : Nat) : Int) ∧ V / 2 ^ 248 < 256 := by
  have h : V / 2 ^ 248 < 256 := Nat.div_lt_of_lt_mul (by rw [← show (2 : Nat) ^ 256 = 2 ^ 248 * 256 by decide]; exact hV)
  unfold byt
  rw [show 8 * 31 = 248 by decide, Nat.mod_eq_of_lt h]
  exact ⟨rfl, h⟩
theorem top_iff (V : Nat) : top V = true ↔ 128 ≤ V / 2 ^ 248 := by
  unfold top
  rw [decide_eq_true_iff]
  generalize hP : (2 : Nat) ^ 248 = P
  have e : (2 : Nat) ^ 255 = 128 * P := by rw [← hP]
  rw [e, Nat.le_div_iff_mul_le (by subst hP; decide)]
theorem and_hi1 {V : Nat} (hV : V < 2 ^ 256) (ht : top V = true) : bits .and .u8 (byt V 31) 128 = 128 := by
  obtain ⟨h1, h2⟩ := byt31 hV
  rw [h1]
  refine (u8_and_nat _ 128 h2 (by decide)).trans ?_
  rw [and128 _ h2, if_pos ((top_iff V).1 ht)]; rfl
theorem and_hi0 {V : Nat} (hV : V < 2 ^ 256) (ht : ¬ top V = true) : bits .and .u8 (byt V 31) 128 = 0 := by
  obtain ⟨h1, h2⟩ := byt31 hV
  rw [h1]
  refine (u8_and_nat _ 128 h2 (by decide)).trans ?_
  rw [and128 _ h2, if_neg fun h => ht ((top_iff V).2 h)]; rfl
theorem byt_low {V j : Nat} (hj : j < 31) : byt (V % 2 ^ 255) j = byt V j := by
  unfold byt
  congr 1
  obtain ⟨d, hd⟩ : ∃ d, 255 = 8 * j + (8 + d) := ⟨247 - 8 * j, by omega⟩
  rw [hd, Nat.pow_add 2 (8 * j), Nat.mod_mul_right_div_self, Nat.pow_add 2 8 d, Nat.mod_mul_right_mod]
theorem byt_top (V : Nat) : byt (V % 2 ^ 255) 31 = ((V / 2 ^ 248 % 128 : Nat) : Int) := by
  unfold byt
  congr 1
  rw [show 8 * 31 = 248 by decide, show (2 : Nat) ^ 255 = 2 ^ 248 * 128 by decide, Nat.mod_mul_right_div_self]
  omega
theorem clr31 {V : Nat} {r : Int} (hr : r = ((V / 2 ^ 248 % 128 : Nat) : Int)) : arrK .u8 32 (upd (byt V) 31 r) = arrK .u8 32 (byt (V % 2 ^ 255)) := by
  apply arrK_congr
  intro j hj
  by_cases h : j = 31
  · subst h; rw [upd_same, byt_top]; exact hr
  · rw [upd_other _ _ _ _ h, byt_low (by omega)]
theorem clr_bit {V : Nat} (hV : V < 2 ^ 256) : bits .andNot .u8 (byt V 31) 128 = ((V / 2 ^ 248 % 128 : Nat) : Int) := by
  obtain ⟨h1, h2⟩ := byt31 hV
  rw [h1]
  refine (u8_andNot_nat _ 128 h2 (by decide)).trans ?_
  rw [andn128 _ h2]
theorem clr_bit' {V : Nat} (hV : V < 2 ^ 256) : bits .and .u8 (byt V 31) 127 = ((V / 2 ^ 248 % 128 : Nat) : Int) := by
  obtain ⟨h1, h2⟩ := byt31 hV
  rw [h1]
  refine (u8_and_nat _ 127 h2 (by decide)).trans ?_
  rw [and127 _ h2]
theorem set_bit {V : Nat} (hV : V < 2 ^ 255) : bits .or .u8 (byt V 31) 128 = byt (V + 2 ^ 255) 31 := by
  obtain ⟨h1, h2⟩ := byt31 (V := V) (Nat.lt_trans hV (by decide))
  obtain ⟨h3, h4⟩ := byt31 (V := V + 2 ^ 255) (by omega)
  have h5 : V / 2 ^ 248 < 128 := Nat.div_lt_of_lt_mul (by rw [← show (2 : Nat) ^ 255 = 2 ^ 248 * 128 by decide]; exact hV)
  rw [h1, h3]
  refine (u8_or_nat _ 128 h2 (by decide)).trans ?_
  rw [or128 _ h5, show (2 : Nat) ^ 255 = 2 ^ 248 * 128 by decide, Nat.add_mul_div_left _ _ (by decide)]
theorem set31 {V : Nat} (hV : V < 2 ^ 255) : arrK .u8 32 (upd (byt V) 31 (bits .or .u8 (byt V 31) 128)) = arrK .u8 32 (byt (V + 2 ^ 255)) := by
  apply arrK_congr
  intro j hj
  by_cases h : j = 31
  · subst h; rw [upd_same, set_bit hV]
  · rw [upd_other _ _ _ _ h, ← byt_low (V := V + 2 ^ 255) (by omega), Nat.add_mod_right, Nat.mod_eq_of_lt hV]
theorem bval_byt (A : Nat) : ∀ n, bval (byt A) n = A % 2 ^ (8 * n)
  | 0 => by rw [Nat.mul_zero, Nat.pow_zero, Nat.mod_one]; rfl
  | n + 1 => by
    show bval (byt A) n + (byt A n).toNat * 2 ^ (8 * n) = _
    rw [bval_byt A n, Nat.mul_add, Nat.pow_add, Nat.mod_mul, Nat.mul_comm (byt A n).toNat]
    rfl
theorem byt_inj {A B : Nat} (hA : A < 2 ^ 256) (hB : B < 2 ^ 256) (h : ∀ j, j < 32 → byt A j = byt B j) : A = B := by
  have key : ∀ n, n ≤ 32 → bval (byt A) n = bval (byt B) n := by
    intro n
    induction n with
    | zero => intro _; rfl
    | succ n ih => intro hn; show bval (byt A) n + (byt A n).toNat * _ = bval (byt B) n + (byt B n).toNat * _; rw [ih (by omega), h n (by omega)]
  have := key 32 (by omega)
  rw [bval_byt, bval_byt] at this
  rwa [show 8 * 32 = 256 by decide, Nat.mod_eq_of_lt hA, Nat.mod_eq_of_lt hB] at this
theorem eqB32 (A B : Nat) (hA : A < 2 ^ 256) (hB : B < 2 ^ 256) (w : World) : (Op.equalIn 10000 22 (.agg (arrK .u8 32 (byt A))) (.agg (arrK .u8 32 (byt B)))).run Tryd.prog w = .ok (decide (A = B)) w := by
  have h := run_equalIn_arr (P := Tryd.prog) w 9998 22 5 32 .u8 (arrK .u8 32 (byt A)) (arrK .u8 32 (byt B)) (byt A) (byt B) Tryd.underlying22 Tryd.underlying5 (by kernel_rfl)
    (fun i hi => arrK_get _ _ _ _ hi) (fun i hi => arrK_get _ _ _ _ hi)
  rw [h]
  congr 1
  rw [Bool.eq_iff_iff, eqArr_true, decide_eq_true_iff]
  exact ⟨byt_inj hA hB, fun h => by subst h; intro _ _; rfl⟩
/-- the lowest n bytes of a number, as a list -/
def lb (n V : Nat) : List UInt8 := (List.range n).map fun j => UInt8.ofNat (V / 2 ^ (8 * j) % 256)
theorem lb_length (n V : Nat) : (lb n V).length = n := by simp [lb]
theorem lb_get {n V j : Nat} (hj : j < n) : (lb n V)[j]? = some (UInt8.ofNat (V / 2 ^ (8 * j) % 256)) := by simp [lb, hj]
theorem lb_byt (V j : Nat) : ((UInt8.ofNat (V / 2 ^ (8 * j) % 256)).toNat : Int) = byt V j := by
  unfold byt
  rw [UInt8.toNat_ofNat', Nat.mod_mod]
theorem strN_lb (n V : Nat) : strN n (byt V) = str (lb n V) := by
  unfold strN str strOfNums lb
  congr 1
  simp only [List.map_map]
  congr 1
theorem bs8_lb (n V : Nat) : bs8 (lb n V) = lstK .u8 n (byt V) := by
  unfold bs8 lb lstK
  rw [List.map_map]
  apply List.map_congr_left
  intro j _
  simp only [Function.comp, lb_byt]
theorem arrK_list (n : Nat) (f : Nat → Int) : (arrK .u8 n f).toList = lstK .u8 n f := rfl
/-- an array of bytes, seen as a slice of all of it -/
theorem sl_arr {w : World} {b n V : Nat} {t : TypeId} (hn : n ≤ maxLen) (h : Blk w b (arrK .u8 n (byt V)) t) : Sl w (.slice (some ⟨b, 0, none⟩) n n) (lb n V) :=
  sl_blk h (lb_length n V).symm (Nat.le_refl _) hn fun j x hj => by
    have hl := (List.getElem?_eq_some_iff.1 hj).1
    rw [lb_length] at hl
    rw [lb_get hl] at hj
    rw [Nat.zero_add, arrK_get _ _ _ _ hl, ← lb_byt, Option.some.inj hj]
theorem lb_inj {A B : Nat} (hA : A < 2 ^ 256) (hB : B < 2 ^ 256) (h : lb 32 A = lb 32 B) : A = B := by
  refine byt_inj hA hB fun j hj => ?_
  have h1 := lb_get (V := A) hj
  rw [h, lb_get hj] at h1
  rw [← lb_byt, ← lb_byt, Option.some.inj h1]
end Go.Proofs.YtghajiagbfcmdaaDoor
