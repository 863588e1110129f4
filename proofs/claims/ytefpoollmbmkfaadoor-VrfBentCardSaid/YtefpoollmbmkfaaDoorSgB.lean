/- sign: Sign. Conditions: the cells of the variables hold their numbers. -/
import Derived.Test.YtefpoollmbmkfaaDoorGc
import Derived.Test.YtefpoollmbmkfaaDoorSgA
set_option linter.unusedSimpArgs false
set_option linter.unusedVariables false
namespace Go.Proofs.YtefpoollmbmkfaaDoor
set_option maxHeartbeats 1000000
set_option maxRecDepth 100000
open Go.RowKit
attribute [local irreducible] wpList J6j
variable {kn : Kn}
open Sc (LL J21)
theorem Q0n (hd : kn.d) (hb : kn.b) {N D P S : Nat} (hN : N = kN S) (hD : D = kD S) (hP : P = kP S) (w : World) (hG : GA kn w) :
    Calls Tryd.prog 15 #[.agg (J1 .u8 32 (Q6 S))] w fun e w' => Ret (.agg (s3 N D P)) w w' e := by
  rw [hN, hD, hP]; exact Z6p hd hb S w hG
theorem Z0i {w : World} {v : Value} {l : List UInt8} (h : Own w v l) (hp : 0 < l.length) : ∃ g c cur, v = .slice (some ⟨g, 0, none⟩) l.length c ∧ Blk w g cur 5 ∧ cur.toList.take l.length = bs8 l := by
  rcases h.2 with ⟨_, h0⟩ | ⟨g, c, cur, hv, _, hh, _, _, _, ht⟩
  · omega
  · exact ⟨g, c, cur, hv, hh, by rwa [Nat.mul_one] at ht⟩
theorem Y5a {P : Program} {W : World} {o : Oper} {a : Act} {x : Operand} {arr e : TypeId} {n c : Nat} {ad : Addr} (ho : o.op = .sliceToArrayPointer arr x) (hx : a.eval x = .slice (some ad) n c) (hu : P.underlying arr = some (.array n e)) : (execOp a.eval o).run P W = .ok (.value (.pointer (some ad))) W := by
  simp [execOp, ho, hx, Instr.arrayAt, run_underlying hu, Sem.run_bind]
theorem Y9t {W : World} {v : Value} {l : List UInt8} {g c m n V : Nat} (h : Own W v l) (ez : v = .slice (some ⟨g, 0, none⟩) m c) (hn : l.length = n) (hp : 0 < n) (hl : l = lb n V) : ∀ i x, (J1 .u8 n (Q6 V)).toList[i]? = some x → W.cell? ⟨g, 0 + i, none⟩ = some x := fun i x hx => by
  obtain ⟨g', c', cur, e', hB, ht⟩ := Z0i h (by omega)
  rw [ez] at e'
  injection e' with e1 _ _
  injection e1 with e1
  injection e1 with e1 _ _
  subst e1
  have hi : i < n := by have := (List.getElem?_eq_some_iff.1 hx).1; rwa [Array.length_toList, Q1] at this
  rw [Q8 hB, Nat.zero_add, ← Array.getElem?_toList, ← List.getElem?_take_of_lt (l := cur.toList) (show i < l.length by rw [hn]; exact hi), ht, hl, Q32, ← J5n]
  exact hx
end Go.Proofs.YtefpoollmbmkfaaDoor
