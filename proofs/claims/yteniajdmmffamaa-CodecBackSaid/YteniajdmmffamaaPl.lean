/- Steps by a plan for texts and byte slices. No conditions. -/
import Derived.Test.YteniajdmmffamaaTx
import Derived.Test.YteniajdmmffamaaReg4
namespace Go.Proofs.Yteniajdmmffamaa
set_option linter.unusedSimpArgs false
set_option linter.unusedVariables false
open Go.RowKit
section
variable {w W : World} {o : Oper} {a : Act} {x y : Operand} {v u : Value} {l : List UInt8}
theorem run_cvs (h : Sl W v l) (ho : o.op = .convert 26 9 x) (hx : a.eval x = v) : (execOp a.eval o).run Try.prog W = .ok (.value (str l)) W := by
  simp [execOp, ho, hx, Sem.run_bind, run_str h]
theorem run_lenA (hs : Sl w v l) (ho : o.op = .call { callee := .builtin .len, args := #[x], argTypes := #[26] }) (hx : a.eval x = v) : (execOp a.eval o).run Try.prog W = .ok (.value (.int .i64 (l.length : Int))) W := by
  obtain ⟨A, c, rfl, _⟩ := hs
  unfold execOp
  simp only [ho, resolve, invoke, builtin, Sem.run_bind, Sem.run_pure, Result.andThen_ok, List.map_toArray, List.map_cons, List.map_nil, hx]
  simp [Builtin.len_, run_underlying Try.underlying26, goInt, Sem.run_bind]
theorem run_headA {k : Value} (ho : o.op = .slice 26 x none (some y) none) (hx : a.eval x = v) (hy : a.eval y = k) (hr : (Instr.sliceAt 26 v none (some k) none).run Try.prog W = .ok u W) : (execOp a.eval o).run Try.prog W = .ok (.value u) W := by
  simp [execOp, ho, hx, hy, hr, Sem.run_bind]
theorem run_tailA {k : Value} (ho : o.op = .slice 26 x (some y) none none) (hx : a.eval x = v) (hy : a.eval y = k) (hr : (Instr.sliceAt 26 v (some k) none none).run Try.prog W = .ok u W) : (execOp a.eval o).run Try.prog W = .ok (.value u) W := by
  simp [execOp, ho, hx, hy, hr, Sem.run_bind]
theorem run_streqb {t : TypeId} {l m : List UInt8} {b : Bool} (hb : decide (l = m) = b) (ho : o.op = .binOp .eql 9 x y t) (hx : a.eval x = str l) (hy : a.eval y = str m) : (execOp a.eval o).run Try.prog W = .ok (.value (.bool b)) W := hb ▸ run_streq ho hx hy
end
end Go.Proofs.Yteniajdmmffamaa
