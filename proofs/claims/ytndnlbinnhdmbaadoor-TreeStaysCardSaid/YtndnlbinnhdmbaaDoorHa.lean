/- Words of 64 bits as the model reckons with them; arrays by a place that varies. No conditions. sha5.turn, the document's turn: a word turned to the right. No conditions. sha5.spread: a block as 80 words. Conditions: the slice has 128 bytes. sha5.press: a block worked into eight words. Conditions: the slice has 128 bytes; the cells of the two tables hold their numbers. -/
import Derived.Test.YtndnlbinnhdmbaaDoorGc
import Derived.Laws.BitsLemmas
set_option linter.unusedSimpArgs false
set_option linter.unusedVariables false
namespace Go.Proofs.YtndnlbinnhdmbaaDoor
open Go.RowKit

def an (p q : Int) : Int := bits .and .u64 p q
def oo (p q : Int) : Int := bits .or .u64 p q
def ad (p q : Int) : Int := IntKind.wrap .u64 (p + q)
def sl (p : Int) (n : Nat) : Int := IntKind.wrap .u64 (p * 2 ^ n)
def sr (p : Int) (n : Nat) : Int := p / 2 ^ n
section
variable {P : Program} {w : World} {o : Oper} {a : Act} {x y : Operand} {t t' : TypeId} {p q : Int}
theorem run_shl {k : IntKind} {n : Nat} (hn : n ≤ 64) (ho : o.op = .binOp .shl t x y t') (hx : a.eval x = .int .u64 p) (hy : a.eval y = .int k (n : Int)) : (execOp a.eval o).run P w = .ok (.value (.int .u64 (sl p n))) w := by
  have h : min ((n : Int)).toNat IntKind.u64.bits = n := by rw [Int.toNat_natCast]; exact Nat.min_eq_left hn
  simp only [execOp, ho, hx, hy, eqGuard, binOp, Sem.run_bind]
  simp [Op.shift, h, sl, go_sem, Sem.run_bind]
theorem run_shr {k : IntKind} {n : Nat} (hn : n ≤ 64) (ho : o.op = .binOp .shr t x y t') (hx : a.eval x = .int .u64 p) (hy : a.eval y = .int k (n : Int)) : (execOp a.eval o).run P w = .ok (.value (.int .u64 (sr p n))) w := by
  have h : min ((n : Int)).toNat IntKind.u64.bits = n := by rw [Int.toNat_natCast]; exact Nat.min_eq_left hn
  simp only [execOp, ho, hx, hy, eqGuard, binOp, Sem.run_bind]
  simp [Op.shift, h, sr, go_sem, Sem.run_bind]
end
end Go.Proofs.YtndnlbinnhdmbaaDoor

