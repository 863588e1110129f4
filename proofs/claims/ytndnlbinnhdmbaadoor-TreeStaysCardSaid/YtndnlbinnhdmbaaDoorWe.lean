/- Words of 32 bits as the model reckons with them; arrays by a place that varies. No conditions. -/
import Derived.Test.YtndnlbinnhdmbaaDoorGc
import Derived.Laws.BitsLemmas
set_option linter.unusedSimpArgs false
set_option linter.unusedVariables false
namespace Go.Proofs.YtndnlbinnhdmbaaDoor
open Go.RowKit

def xo4 (p q : Int) : Int := bits .xor .u32 p q
def an4 (p q : Int) : Int := bits .and .u32 p q
def oo4 (p q : Int) : Int := bits .or .u32 p q
def nt4 (p : Int) : Int := bits .xor .u32 4294967295 p
def ad4 (p q : Int) : Int := IntKind.wrap .u32 (p + q)
def sl4 (p : Int) (n : Nat) : Int := IntKind.wrap .u32 (p * 2 ^ n)
def sr4 (p : Int) (n : Nat) : Int := p / 2 ^ n
/-- turned to the right -/
def rt4 (p : Int) (n : Nat) : Int := oo4 (sr4 p n) (sl4 p (32 - n))
theorem oo_comm4 (p q : Int) : oo4 p q = oo4 q p := by unfold oo4; simp only [bits, BitVec.or_comm]
section
variable {P : Program} {w : World} {o : Oper} {a : Act} {x y : Operand} {t t' : TypeId} {p q : Int}
theorem run_xor4 (ho : o.op = .binOp .xor t x y t') (hx : a.eval x = .int .u32 p) (hy : a.eval y = .int .u32 q) : (execOp a.eval o).run P w = .ok (.value (.int .u32 (xo4 p q))) w := by
  simp only [execOp, ho, hx, hy]; rfl
theorem run_and4 (ho : o.op = .binOp .and t x y t') (hx : a.eval x = .int .u32 p) (hy : a.eval y = .int .u32 q) : (execOp a.eval o).run P w = .ok (.value (.int .u32 (an4 p q))) w := by
  simp only [execOp, ho, hx, hy]; rfl
theorem run_or4 (ho : o.op = .binOp .or t x y t') (hx : a.eval x = .int .u32 p) (hy : a.eval y = .int .u32 q) : (execOp a.eval o).run P w = .ok (.value (.int .u32 (oo4 p q))) w := by
  simp only [execOp, ho, hx, hy]; rfl
theorem run_add4 (ho : o.op = .binOp .add t x y t') (hx : a.eval x = .int .u32 p) (hy : a.eval y = .int .u32 q) : (execOp a.eval o).run P w = .ok (.value (.int .u32 (ad4 p q))) w := by
  simp only [execOp, ho, hx, hy]; rfl
theorem run_not4 (ho : o.op = .unOp .xor t x) (hx : a.eval x = .int .u32 p) : (execOp a.eval o).run P w = .ok (.value (.int .u32 (nt4 p))) w := by
  simp only [execOp, ho, hx]; rfl
theorem run_shl4 {k : IntKind} {n : Nat} (hn : n ≤ 32) (ho : o.op = .binOp .shl t x y t') (hx : a.eval x = .int .u32 p) (hy : a.eval y = .int k (n : Int)) : (execOp a.eval o).run P w = .ok (.value (.int .u32 (sl4 p n))) w := by
  have h : min ((n : Int)).toNat IntKind.u32.bits = n := by rw [Int.toNat_natCast]; exact Nat.min_eq_left hn
  simp only [execOp, ho, hx, hy, eqGuard, binOp, Sem.run_bind]
  simp [Op.shift, h, sl4, go_sem, Sem.run_bind]
theorem run_shr4 {k : IntKind} {n : Nat} (hn : n ≤ 32) (ho : o.op = .binOp .shr t x y t') (hx : a.eval x = .int .u32 p) (hy : a.eval y = .int k (n : Int)) : (execOp a.eval o).run P w = .ok (.value (.int .u32 (sr4 p n))) w := by
  have h : min ((n : Int)).toNat IntKind.u32.bits = n := by rw [Int.toNat_natCast]; exact Nat.min_eq_left hn
  simp only [execOp, ho, hx, hy, eqGuard, binOp, Sem.run_bind]
  simp [Op.shift, h, sr4, go_sem, Sem.run_bind]
end
end Go.Proofs.YtndnlbinnhdmbaaDoor
