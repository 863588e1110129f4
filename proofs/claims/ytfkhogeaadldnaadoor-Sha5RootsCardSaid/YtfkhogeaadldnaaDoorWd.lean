/- Words of 64 bits as the model reckons with them; arrays by a place that varies. No conditions. -/
import Derived.Test.YtfkhogeaadldnaaDoorGc
import Derived.Laws.BitsLemmas
namespace Go.Proofs.YtfkhogeaadldnaaDoor
set_option linter.unusedSimpArgs false
set_option linter.unusedVariables false
open Go.RowKit

def xo (p q : Int) : Int := bits .xor .u64 p q
def an (p q : Int) : Int := bits .and .u64 p q
def oo (p q : Int) : Int := bits .or .u64 p q
def nt (p : Int) : Int := bits .xor .u64 18446744073709551615 p
def ad (p q : Int) : Int := IntKind.wrap .u64 (p + q)
def sl (p : Int) (n : Nat) : Int := IntKind.wrap .u64 (p * 2 ^ n)
def sr (p : Int) (n : Nat) : Int := p / 2 ^ n
/-- turned to the right -/
def rt (p : Int) (n : Nat) : Int := oo (sr p n) (sl p (64 - n))
theorem oo_comm (p q : Int) : oo p q = oo q p := by unfold oo; simp only [bits, BitVec.or_comm]
section
variable {P : Program} {w : World} {o : Oper} {a : Act} {x y : Operand} {t t' : TypeId} {p q : Int}
theorem run_xor (ho : o.op = .binOp .xor t x y t') (hx : a.eval x = .int .u64 p) (hy : a.eval y = .int .u64 q) : (execOp a.eval o).run P w = .ok (.value (.int .u64 (xo p q))) w := by
  simp only [execOp, ho, hx, hy]; rfl
theorem run_and (ho : o.op = .binOp .and t x y t') (hx : a.eval x = .int .u64 p) (hy : a.eval y = .int .u64 q) : (execOp a.eval o).run P w = .ok (.value (.int .u64 (an p q))) w := by
  simp only [execOp, ho, hx, hy]; rfl
theorem run_or (ho : o.op = .binOp .or t x y t') (hx : a.eval x = .int .u64 p) (hy : a.eval y = .int .u64 q) : (execOp a.eval o).run P w = .ok (.value (.int .u64 (oo p q))) w := by
  simp only [execOp, ho, hx, hy]; rfl
theorem run_add (ho : o.op = .binOp .add t x y t') (hx : a.eval x = .int .u64 p) (hy : a.eval y = .int .u64 q) : (execOp a.eval o).run P w = .ok (.value (.int .u64 (ad p q))) w := by
  simp only [execOp, ho, hx, hy]; rfl
theorem run_not (ho : o.op = .unOp .xor t x) (hx : a.eval x = .int .u64 p) : (execOp a.eval o).run P w = .ok (.value (.int .u64 (nt p))) w := by
  simp only [execOp, ho, hx]; rfl
theorem run_shl {k : IntKind} {n : Nat} (hn : n ≤ 64) (ho : o.op = .binOp .shl t x y t') (hx : a.eval x = .int .u64 p) (hy : a.eval y = .int k (n : Int)) : (execOp a.eval o).run P w = .ok (.value (.int .u64 (sl p n))) w := by
  have h : min ((n : Int)).toNat IntKind.u64.bits = n := by rw [Int.toNat_natCast]; exact Nat.min_eq_left hn
  simp only [execOp, ho, hx, hy, eqGuard, binOp, Sem.run_bind]
  simp [Op.shift, h, sl, go_sem, Sem.run_bind]
theorem run_shr {k : IntKind} {n : Nat} (hn : n ≤ 64) (ho : o.op = .binOp .shr t x y t') (hx : a.eval x = .int .u64 p) (hy : a.eval y = .int k (n : Int)) : (execOp a.eval o).run P w = .ok (.value (.int .u64 (sr p n))) w := by
  have h : min ((n : Int)).toNat IntKind.u64.bits = n := by rw [Int.toNat_natCast]; exact Nat.min_eq_left hn
  simp only [execOp, ho, hx, hy, eqGuard, binOp, Sem.run_bind]
  simp [Op.shift, h, sr, go_sem, Sem.run_bind]
end
end Go.Proofs.YtfkhogeaadldnaaDoor
