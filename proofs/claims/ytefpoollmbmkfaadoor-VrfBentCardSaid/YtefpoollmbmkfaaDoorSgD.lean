/- The document's Spread, Sign, Verify. Conditions: the cells of the sums' tables hold their numbers. -/
import Derived.Test.YtefpoollmbmkfaaDoorGc
import Derived.Test.YtefpoollmbmkfaaDoorSgC
import Derived.Test.YtefpoollmbmkfaaDoorShE
import Derived.Test.YtefpoollmbmkfaaDoorRe
import Derived.Test.YtefpoollmbmkfaaDoorRf
import Derived.Test.YtefpoollmbmkfaaDoorEdQ
import Derived.Test.YtefpoollmbmkfaaDoorEdT
import Derived.Test.YtefpoollmbmkfaaDoorEdU
import Derived.Test.YtefpoollmbmkfaaDoorEdV
set_option linter.unusedSimpArgs false
set_option linter.unusedVariables false
namespace Go.Proofs.YtefpoollmbmkfaaDoor
set_option maxHeartbeats 1000000
set_option maxRecDepth 100000
open Go.RowKit
attribute [local irreducible] wpList
open Sc (LL J21)
variable {kn : Kn}
section
variable {w : World} {o : Oper} {a : Act} {x y : Operand} {t : TypeId}
theorem Z6r {l : List UInt8} {n : Nat} (hn : n ≤ l.length) (ho : o.op = .slice t x (some y) none none) (ht : Tryd.prog.underlying t = some .string) (hx : a.eval x = str l) (hy : a.eval y = .int .i64 (n : Int)) : (execOp a.eval o).run Tryd.prog w = .ok (.value (str (l.drop n))) w := by
  have h1 := J7e l
  have h2 := Q1c l n l.length
  rw [List.take_length] at h2
  unfold execOp
  simp only [ho, hx, hy, str, Option.map]
  simp [Instr.sliceAt, Instr.slice, Instr.sliceBounds, Instr.sliceBound, asIntOf, run_underlying ht, Sem.run_bind, h1, h2, hn]
theorem Q2b {V : Nat} (ho : o.op = .slice t x none (some y) none) (ht : Tryd.prog.underlying t = some .string) (hx : a.eval x = str (lb 64 V)) (hy : a.eval y = .int .i64 32) : (execOp a.eval o).run Tryd.prog w = .ok (.value (str (lb 32 (lo V)))) w := by
  have h := Q35 (w := w) (n := 32) (by rw [J8]; decide) ho ht hx hy
  rw [V3d, List.take_left' (J8 _ _)] at h
  exact h
end
theorem Q2c {H : Nat} {l : List UInt8} (hH : H = hs l) (hlen : l.length ≤ 70368744177664) (w : World) (hG : GR w) : Calls Tryd.prog 43 #[str l] w fun e w' => Ret (str (lb 64 H)) w w' e := by
  rw [hH, ← Y0v]; exact Y9u l hlen w hG
theorem Q94 {X n T : Nat} (hX : X = T % LL) (hT : T < 2 ^ (8 * n)) (hn : n ≤ 700) (w : World) : Calls Tryd.prog 51 #[str (lb n T)] w fun e w' => Ret (A16 X) w w' e := by
  rw [hX, ← Q47]; exact Sc.rof_c n T hT hn w
theorem Q39 (X : Nat) (w : World) : Calls Tryd.prog 52 #[A16 X] w fun e w' => Ret (str (lb 32 X)) w w' e := by
  rw [← Q47]; exact Sc.rbytes_c X w
theorem Q2d {X X1 Y1 Z1 : Nat} {p1 : Pr} (h1 : RD X1 Y1 Z1 p1) (hX : X = enc p1) (w : World) : Calls Tryd.prog 45 #[.agg (p3 X1 Y1 Z1)] w fun e w' => Ret (str (lb 32 X)) w w' e := hX ▸ Y8a h1 w

end Go.Proofs.YtefpoollmbmkfaaDoor
