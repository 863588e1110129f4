/- A load of one cell of a known row. No conditions. -/
import Derived.Test.YteniajdmmffamaaReg2
namespace Go.Proofs.Yteniajdmmffamaa
set_option linter.unusedSimpArgs false
set_option linter.unusedVariables false
open Go.RowKit
section
variable {P : Program} {ops : Array Oper} {w : World} {E : Act → Prop} {l : List Oper} {o : Oper} {a : Act}
theorem wpX_cell {b j : Nat} {cs : Array Value} {v : Value} {ty : TypeId} {x : Operand} (hB : Rd w b cs) (hj : cs[j]? = some v) (hw : Region.wanted o (yielded ops a.tmps) = true) (ho : o.op = .load ty x) (hx : a.eval x = .pointer (some ⟨b, j, none⟩))
    (hk : (P.underlying ty).map TypeDesc.isRow = some false)
    (h : wpX P ops w E l (a.put o.dst v)) : wpX P ops w E (o :: l) a := by
  refine wpX_val hw (fun W hW => ?_) h
  have hc := (hB.ext hW).1 j v hj
  cases hu : P.underlying ty with
  | none => simp [hu] at hk
  | some d =>
    have hd : d.isRow = false := by simpa [hu] using hk
    unfold execOp
    simp only [ho, hx]
    cases d <;> simp_all [Instr.loadAt, Instr.sureAddr, Sem.run_bind, Sem.run_pure, Result.andThen_ok, run_underlying hu, TypeDesc.isRow]
    all_goals simp [loadVar, isAgg, Sem.run_bind, Sem.run_pure, Result.andThen_ok, run_underlying hu, TypeDesc.isRow, hc]
end
end Go.Proofs.Yteniajdmmffamaa
