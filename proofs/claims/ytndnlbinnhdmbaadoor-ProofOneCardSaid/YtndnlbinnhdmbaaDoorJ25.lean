/- A text copied over an array; a cell stored in an element of a row. No conditions. ProofBack. Conditions: the tables hold their numbers; keys and values have 256 bits. ProofChecks. Conditions: the tables hold their numbers; keys and values have 256 bits. -/
import Derived.Test.YtndnlbinnhdmbaaDoorJ8
import Derived.Laws.CopyRow
import Derived.Test.YtndnlbinnhdmbaaDoorPrE
set_option linter.unusedSimpArgs false
set_option linter.unusedVariables false
namespace Go.Proofs.YtndnlbinnhdmbaaDoor
open Go.RowKit
attribute [local irreducible] wpList wpTr wpX
/-- the ways through a region meet again behind it -/
theorem RJ {P : Program} {ops : Array Oper} {id : Nat} {a : Act} {w : World} {Q : Exit → Act → World → Prop} {R : Act → World → Prop} (h : (Code.region id ops true).wp P (Nml R) a w) (hk : ∀ a' w', R a' w' → Q .normal a' w') : (Code.region id ops true).wp P Q a w :=
  Code.wp_mono (fun e a' w' h' => by cases e <;> first | exact hk _ _ h' | exact (h' : False).elim) h
section
variable {ops : Array Oper} {Q : Exit → Act → World → Prop} {F : List Nat} {w : World} {H H' : List As} {r : List Oper} {o : Oper} {a a' : Act}
/-- a text copied over a whole array -/
theorem wpL_copyS {x y : Operand} {l : List UInt8} {g : Nat} {cur : Array Value} {t : TypeId} {n c : Nat} (hB : Blk w g cur t) (hcur : cur.size = l.length) (hn : n = l.length) (hw : Region.wanted o (yielded ops a.tmps) = true)
    (ho : o.op = .call { callee := .builtin .copy, args := #[x, y], argTypes := #[33, 9] }) (hx : a.eval x = .slice (some ⟨g, 0, none⟩) n c) (hy : a.eval y = str l)
    (h : ∀ W, Off [g] w W → Blk W g (bs8 l).toArray t → wpList Tryd.prog ops Q r (a.put o.dst (goInt l.length)) W) : wpList Tryd.prog ops Q (o :: r) a w := by
  subst hn
  have hst := run_storeCells_at Tryd.prog g 0 t (bs8 l) 0 cur w hB (by rw [bs8_length, hcur]; omega) (bs8_one l)
  have e : (cur.toList.take (0 + 0) ++ bs8 l ++ cur.toList.drop (0 + 0 + (bs8 l).length)) = bs8 l := by
    rw [List.drop_eq_nil_of_le (by rw [bs8_length, Array.length_toList]; omega)]; simp
  rw [e] at hst
  have h4 : Blk (w.setRow g (bs8 l).toArray) g (bs8 l).toArray t := blk_setRow hB _
  have hsz := ba_size l
  have hex := ba_extract l 0 l.length
  rw [List.take_of_length_le (Nat.le_refl _), List.drop_zero] at hex
  refine wpL_run hw (v := goInt l.length) (W := w.setRow g (bs8 l).toArray) ?_ (h _ ⟨rfl, rfl, rfl, by simp, fun k _ hk => setRow_other w g k _ (by simpa using hk)⟩ h4)
  unfold execOp
  simp only [ho, resolve, invoke, builtin, Sem.run_bind, Sem.run_pure, Result.andThen_ok, List.map_toArray, List.map_cons, List.map_nil, hx, hy]
  cases hq : Tryd.prog.info? 5 with
  | none => have h0 := u8_size; rw [hq] at h0; cases h0
  | some i =>
    have hi : i.size = 1 := by have h0 := u8_size; rw [hq] at h0; simpa using h0
    have hmin : Nat.min l.length l.length = l.length := Nat.min_self _
    have hst' : (storeCells ⟨g, 0, none⟩ (l.map fun b => Value.int .u8 (b.toNat : Int))).run Tryd.prog w = .ok () (w.setRow g (l.map fun b => Value.int .u8 (b.toNat : Int)).toArray) := hst
    simp [Builtin.copy_, run_underlying Tryd.underlying33, Builtin.lenOf, Builtin.firstCells, sizeOf, typeInfo, hq, hi, str, hsz, hex, hmin, Sem.run_bind, bs8]
    rw [List.take_of_length_le (by simp), hst']
    rfl
/-- a text copied over thing i -/
theorem MCp (i : Nat) {x y : Operand} {l : List UInt8} {b n c : Nat} {cs new : Array Value} {t : TypeId} (hl : l.length = n) (hcs : cs.size = n) (hnew : (bs8 l).toArray = new) (h : wpM Tryd.prog ops (.L Q) F w H' r a') (hi : H[i]? = some (.b b cs t) := by exact rfl) (hw : Region.wanted o (yielded ops a.tmps) = true := by exact rfl)
    (ho : o.op = .call { callee := .builtin .copy, args := #[x, y], argTypes := #[33, 9] } := by exact rfl) (hx : a.eval x = .slice (some ⟨b, 0, none⟩) n c := by exact rfl) (hy : a.eval y = str l := by exact rfl)
    (hH : H.set i (.b b new t) = H' := by dsimp only [sB, sC]; first | done | exact rfl) (hp : a.put o.dst (goInt n) = a' := by first | exact pl (by dsimp only [mB, mC]; first | done | exact rfl) | exact pn | exact rfl) : wpM Tryd.prog ops (.L Q) F w H (o :: r) a := by
  subst hp hH hnew hl
  intro W hS
  exact wpL_copyS (hS.blk hi) hcs rfl hw ho hx hy fun W' hO hB => h W' (hS.setb hi hO hB)
end
end Go.Proofs.YtndnlbinnhdmbaaDoor

set_option linter.unusedSimpArgs false
set_option linter.unusedVariables false
namespace Go.Proofs.YtndnlbinnhdmbaaDoor
set_option maxHeartbeats 3000000
set_option maxRecDepth 100000
open Go.RowKit
attribute [local irreducible] wpList wpTr wpX
set_option linter.unusedSimpArgs false
attribute [local irreducible] hs4 sE sL sN lb

end Go.Proofs.YtndnlbinnhdmbaaDoor

set_option linter.unusedSimpArgs false
set_option linter.unusedVariables false
namespace Go.Proofs.YtndnlbinnhdmbaaDoor
set_option maxHeartbeats 3000000
set_option maxRecDepth 100000
open Go.RowKit
attribute [local irreducible] wpList wpTr wpX
set_option linter.unusedSimpArgs false
theorem bs8_arr (n U : Nat) : (bs8 (lb n U)).toArray = arrK .u8 n (byt U) := by rw [bs8_lb, ← arrK_list]
attribute [local irreducible] hs4 sE sL sN lb tA

end Go.Proofs.YtndnlbinnhdmbaaDoor
