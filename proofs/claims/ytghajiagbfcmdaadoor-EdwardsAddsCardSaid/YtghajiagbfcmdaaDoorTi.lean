/- Texts and bytes, by index; a byte turned in a row of bytes; numbers of the bytes of a text. No conditions. -/
import Derived.Test.YtghajiagbfcmdaaDoorPu
import Derived.Test.YtghajiagbfcmdaaDoorGc
namespace Go.Proofs.YtghajiagbfcmdaaDoor
set_option linter.unusedSimpArgs false
set_option linter.unusedVariables false
open Go.RowKit
section
variable {w : World} {o : Oper} {a : Act} {x y : Operand} {t t' : TypeId}
/-- a text's byte -/
theorem run_sixs {l : List UInt8} {i : Nat} {c : UInt8} (h : l[i]? = some c) (ho : o.op = .index 9 x y) (hx : a.eval x = str l) (hy : a.eval y = .int .i64 (i : Int)) : (execOp a.eval o).run Tryd.prog w = .ok (.value (.int .u8 (c.toNat : Int))) w := by
  have hs := ba_size l
  have hi := (List.getElem?_eq_some_iff.1 h).1
  have hg := (List.getElem?_eq_some_iff.1 h).2
  have hg2 : (⟨l.toArray⟩ : ByteArray)[i]'(by rw [hs]; exact hi) = c := by
    show l.toArray[i]'(by simpa using hi) = c
    simpa using hg
  simp only [execOp, ho, hx, hy, str, Sem.run_bind]
  simp [Instr.index, asIntOf, run_underlying Tryd.underlying9, hs, hi, hg2, Sem.run_bind]
theorem run_ixlb {n V j : Nat} (hj : j < n) (ho : o.op = .index 9 x y) (hx : a.eval x = str (lb n V)) (hy : a.eval y = .int .i64 (j : Int)) : (execOp a.eval o).run Tryd.prog w = .ok (.value (.int .u8 (byt V j))) w := by
  rw [← lb_byt]; exact run_sixs (lb_get hj) ho hx hy
theorem run_geqU {p q : Int} {b : Bool} (hb : decide (q ≤ p) = b) (ho : o.op = .binOp .geq t x y t') (hx : a.eval x = .int .u8 p) (hy : a.eval y = .int .u8 q) : (execOp a.eval o).run Tryd.prog w = .ok (.value (.bool b)) w := by
  subst hb
  simp only [execOp, ho, hx, hy, eqGuard, binOp, Sem.run_bind]
  simp [go_sem, Sem.run_bind]
theorem run_pred {i : Nat} (hi : i < 9223372036854775808) (ho : o.op = .binOp .sub t x y t') (hx : a.eval x = .int .i64 (i : Int)) (hy : a.eval y = .int .i64 1) : (execOp a.eval o).run Tryd.prog w = .ok (.value (.int .i64 ((i : Int) - 1))) w := by
  have h := IntWalk.i64_in ((i : Int) - 1) (by omega)
  simp only [execOp, ho, hx, hy, eqGuard, binOp, Sem.run_bind]
  simp [go_sem, Sem.run_bind, h]
theorem run_shrN {p : Nat} {k : IntKind} {n : Nat} (hn : n ≤ 8) (ho : o.op = .binOp .shr t x y t') (hx : a.eval x = .int .u8 (p : Int)) (hy : a.eval y = .int k (n : Int)) : (execOp a.eval o).run Tryd.prog w = .ok (.value (.int .u8 ((p / 2 ^ n : Nat) : Int))) w := by
  have e : (p : Int) / 2 ^ n = ((p / 2 ^ n : Nat) : Int) := by rw [Int.natCast_ediv, Int.natCast_pow]; rfl
  rw [run_shrU hn ho hx hy, e]
theorem run_odd16 {N r : Nat} (h : N % 2 = r) (ho : o.op = .binOp .rem t x y t') (hx : a.eval x = .int .i64 (l16 N 0)) (hy : a.eval y = .int .i64 2) : (execOp a.eval o).run Tryd.prog w = .ok (.value (.int .i64 (r : Int))) w := by
  have := run_remN (P := Tryd.prog) (w := w) (i := N / 2 ^ (16 * 0) % 65536) (m := 2) (by decide) (Nat.lt_trans (Nat.mod_lt _ (by decide)) (by decide)) ho hx hy
  rw [this, Nat.mul_zero, Nat.pow_zero, Nat.div_one, show N % 65536 % 2 = r by omega]
end
section
variable {ops : Array Oper} {w : World} {r : List Oper} {o : Oper} {a : Act} {E : Act → Prop}
theorem wpX_strne {x y : Operand} {t : TypeId} {l m : List UInt8} {b : Bool} (hb : (!decide (l = m)) = b) (hw : Region.wanted o (yielded ops a.tmps) = true) (ho : o.op = .binOp .neq 9 x y t) (hx : a.eval x = str l) (hy : a.eval y = str m)
    (h : wpX Tryd.prog ops w E r (a.put o.dst (.bool b))) : wpX Tryd.prog ops w E (o :: r) a := wpX_val hw (fun _ _ => hb ▸ run_strne ho hx hy) h
end
theorem sl_ext {w W : World} {v : Value} {l : List UInt8} (h : Sl w v l) (hW : Ext w W) : Sl W v l := h.off (off_ext hW) (by simp)
theorem take_set {cs : Array Value} {V V' : Nat} {v : Value} (h : cs.toList.take 32 = bs8 (lb 32 V)) (he : (arrK .u8 32 (byt V)).setIfInBounds 31 v = arrK .u8 32 (byt V')) : (cs.setIfInBounds 31 v).toList.take 32 = bs8 (lb 32 V') := by
  rw [Array.toList_setIfInBounds, List.take_set, h, bs8_lb, bs8_lb, ← arrK_list, ← arrK_list, ← he, Array.toList_setIfInBounds]
theorem take_cell {cs : Array Value} {V j : Nat} (h : cs.toList.take 32 = bs8 (lb 32 V)) (hj : j < 32) : cs[j]? = some (.int .u8 (byt V j)) := by
  have e : (cs.toList.take 32)[j]? = some (.int .u8 (byt V j)) := by rw [h, bs8_lb]; exact lstK_get _ _ _ _ hj
  rw [List.getElem?_take_of_lt hj] at e
  simpa using e
/-- the number of a text's bytes, the lowest first -/
def le : List UInt8 → Nat
  | [] => 0
  | x :: r => x.toNat + 256 * le r
theorem le_lt : ∀ l : List UInt8, le l < 2 ^ (8 * l.length)
  | [] => by decide
  | x :: r => by
    have h := le_lt r
    have hx := x.toNat_lt
    show x.toNat + 256 * le r < 2 ^ (8 * (r.length + 1))
    rw [Nat.mul_add, Nat.pow_add]
    omega
theorem le_byte : ∀ {l : List UInt8} {i : Nat} {c : UInt8}, l[i]? = some c → le l / 2 ^ (8 * i) % 256 = c.toNat
  | x :: r, 0, c, h => by
    obtain rfl : x = c := by simpa using h
    have hx := x.toNat_lt
    show (x.toNat + 256 * le r) / 2 ^ 0 % 256 = _
    rw [Nat.pow_zero, Nat.div_one]
    omega
  | x :: r, i + 1, c, h => by
    have hx := x.toNat_lt
    have ih := le_byte (l := r) (i := i) (c := c) (by simpa using h)
    show (x.toNat + 256 * le r) / 2 ^ (8 * (i + 1)) % 256 = _
    rw [Nat.mul_add, Nat.add_comm (8 * i), Nat.pow_add, ← Nat.div_div_eq_div_mul, show (x.toNat + 256 * le r) / 2 ^ (8 * 1) = le r by omega]
    exact ih
theorem le_bit {l : List UInt8} {i k : Nat} {c : UInt8} (h : l[i]? = some c) (hk : k < 8) : c.toNat / 2 ^ k % 2 = le l / 2 ^ (8 * i + k) % 2 := by
  rw [← le_byte h, Nat.pow_add, ← Nat.div_div_eq_div_mul]
  generalize le l / 2 ^ (8 * i) = x
  obtain ⟨d, hd⟩ : ∃ d, 8 = k + (1 + d) := ⟨7 - k, by omega⟩
  rw [show 256 = 2 ^ 8 by decide, hd, Nat.pow_add 2 k, Nat.mod_mul_right_div_self, Nat.pow_add 2 1 d, Nat.pow_one, Nat.mod_mul_right_mod]
theorem lb_succ (n V : Nat) : lb (n + 1) V = UInt8.ofNat (V % 256) :: lb n (V / 256) := by
  unfold lb
  rw [List.range_succ_eq_map, List.map_cons, List.map_map]
  congr 1
  · rw [Nat.mul_zero, Nat.pow_zero, Nat.div_one]
  · apply List.map_congr_left
    intro j _
    simp only [Function.comp]
    rw [Nat.div_div_eq_div_mul, Nat.succ_eq_add_one, Nat.mul_add, Nat.pow_add, Nat.mul_comm (2 ^ (8 * j))]
theorem le_lb : ∀ n V : Nat, V < 2 ^ (8 * n) → le (lb n V) = V
  | 0, V, h => by
    have : V < 1 := h
    obtain rfl : V = 0 := by omega
    rfl
  | n + 1, V, h => by
    rw [lb_succ]
    show (UInt8.ofNat (V % 256)).toNat + 256 * le (lb n (V / 256)) = V
    rw [Nat.mul_add, Nat.pow_add] at h
    rw [le_lb n (V / 256) (by omega), UInt8.toNat_ofNat']
    omega
end Go.Proofs.YtghajiagbfcmdaaDoor
