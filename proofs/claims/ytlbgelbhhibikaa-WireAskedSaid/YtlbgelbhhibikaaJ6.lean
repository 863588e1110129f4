/- Steps of a walk that keeps one list of what lies where: rows of bytes and of elements, texts, slices. No conditions. Rows of elements that are only read; a row behind a row. No conditions. A text copied over an array; a cell stored in an element of a row. No conditions. Bytes of a number as a list; arrays of bytes seen as slices; parts of a sum. No conditions. -/
import Derived.Test.YtlbgelbhhibikaaMb
import Derived.Laws.CopyRow
import Derived.Test.YtlbgelbhhibikaaGc
set_option linter.unusedSimpArgs false
set_option linter.unusedVariables false
namespace Go.Proofs.Ytlbgelbhhibikaa
open Go.RowKit
/-- the place of an element of an array -/
theorem run_ixarrn {P : Program} {w : World} {o : Oper} {a : Act} {x y : Operand} {t e : TypeId} {kk : IntKind} {m k b off j : Nat} (hj : j < m) (ht : P.underlying t = some (.array m e)) (he : (P.info? e).map (·.size) = some k) (ho : o.op = .indexAddr t x y) (hx : a.eval x = .pointer (some ⟨b, off, none⟩)) (hy : a.eval y = .int kk (j : Int)) :
    (execOp a.eval o).run P w = .ok (.value (.pointer (some ⟨b, off + j * k, none⟩))) w := by
  cases hq : P.info? e with
  | none => simp [hq] at he
  | some i =>
    have hs : i.size = k := by simpa [hq] using he
    simp [execOp, ho, hx, hy, Instr.indexAt, asIntOf, Instr.sureAddr, run_underlying ht, Sem.run_bind, sizeOf, typeInfo, hq, hs, hj, Addr.add_mid]
section
variable {ops : Array Oper} {k : Wk} {Q : Exit → Act → World → Prop} {F : List Nat} {w : World} {H : List As} {l : List Oper} {o : Oper} {a : Act}
/-- append to row i, of bytes -/
theorem MA (i : Nat) {s x : Operand} {v u : Value} {xs ys : List UInt8} {H' : Value → List As} {a' : Value → Act} (hsl : ∀ W, SH F w W H → Sl W u ys) (hlen : xs.length + ys.length ≤ 140737488355328) (h : ∀ v', wpM Try.prog ops (.L Q) F w (H' v') l (a' v')) (hi : H[i]? = some (.o v xs) := by exact rfl) (hw : Region.wanted o (yielded ops a.tmps) = true := by exact rfl)
    (ho : o.op = .call { callee := .builtin .append, args := #[s, x], argTypes := #[26, 26] } := by exact rfl) (hs : a.eval s = v := by exact rfl) (hx : a.eval x = u := by exact rfl)
    (hH : ∀ v', H.set i (.o v' (xs ++ ys)) = H' v' := by intro v'; dsimp only [sB, sC]; first | done | exact rfl) (hp : ∀ v, a.put o.dst v = a' v := by intro b; first | exact pl (by dsimp only [mB, mC]; first | done | exact rfl) | exact pn | exact rfl) : wpM Try.prog ops (.L Q) F w H (o :: l) a := by
  intro W hS
  refine wpL_append hw ho hs hx (hS.own hi) (hsl W hS) hlen fun v' W' h1 h2 h3 _ => ?_
  rw [hp]
  exact h v' W' (by rw [← hH]; exact hS.seto hi h2 h1 h3)
/-- thing i[:n] -/
theorem MH (i n : Nat) {x y : Operand} {v : Value} {m m' : List UInt8} {a' : Value → Act} (hn : n ≤ m.length) (h : ∀ u, wpM Try.prog ops k F w (.s u m' :: H) l (a' u)) (hi : H[i]? = some (.s v m) := by exact rfl) (hm : m.take n = m' := by exact rfl) (hw : Region.wanted o (yielded ops a.tmps) = true := by exact rfl)
    (ho : o.op = .slice 26 x none (some y) none := by exact rfl) (hx : a.eval x = v := by exact rfl) (hy : a.eval y = .int .i64 (n : Int) := by exact rfl) (hp : ∀ v, a.put o.dst v = a' v := by intro b; first | exact pl (by dsimp only [mB, mC]; first | done | exact rfl) | exact pn | exact rfl) : wpM Try.prog ops k F w H (o :: l) a := by
  subst hm
  intro W hS
  obtain ⟨u, hr, h1, h2, _⟩ := run_head (hS.sl hi) hn
  have hS' := hS.sub hi h1 h2
  have hrun : ∀ W, (execOp a.eval o).run Try.prog W = .ok (.value u) W := fun W => by simp [execOp, ho, hx, hy, hr W, Sem.run_bind]
  cases k with
  | L Q => exact wpL_val hw (hrun W) (by rw [hp]; exact h u W hS')
  | X E => exact wpX_val hw (fun W' _ => hrun W') (by rw [hp]; exact h u W hS')
end
namespace SH
variable {F : List Nat} {w W W' : World} {H : List As}
end SH
section
variable {ops : Array Oper} {k : Wk} {Q : Exit → Act → World → Prop} {F : List Nat} {w : World} {H : List As} {l : List Oper} {o : Oper} {a : Act}
end
end Go.Proofs.Ytlbgelbhhibikaa

set_option linter.unusedSimpArgs false
set_option linter.unusedVariables false
namespace Go.Proofs.Ytlbgelbhhibikaa
open Go.RowKit
/-- The value v is read as a row of the elements es (their cells). -/
def RR (k : Nat) (w : World) (v : Value) (es : List (List Value)) : Prop :=
  ∃ A c, v = .slice A es.length c ∧ es.length ≤ c ∧ (A = none → c = 0) ∧ ∀ (j : Nat) (e : List Value), es[j]? = some e → ∃ g o, A = some ⟨g, o, none⟩ ∧ ∀ (i : Nat) (x : Value), e[i]? = some x → w.cell? ⟨g, o + j * k + i, none⟩ = some x
theorem RR.ext {k : Nat} {w W : World} {v : Value} {es : List (List Value)} (h : RR k w v es) (q : Ext w W) : RR k W v es := by
  obtain ⟨A, c, h1, h2, h0, h3⟩ := h
  refine ⟨A, c, h1, h2, h0, fun j e hj => ?_⟩
  obtain ⟨g, o, h4, h5⟩ := h3 j e hj
  exact ⟨g, o, h4, fun i x hx => cell_ext (h5 i x hx) q⟩
theorem run_strneB {W : World} {o : Oper} {a : Act} {x y : Operand} {t : TypeId} {l m : List UInt8} {b : Bool} (hb : decide (l = m) = b) (ho : o.op = .binOp .neq 9 x y t) (hx : a.eval x = str l) (hy : a.eval y = str m) : (execOp a.eval o).run Try.prog W = .ok (.value (.bool (!b))) W := hb ▸ run_strne ho hx hy
section
variable {ops : Array Oper} {Q : Exit → Act → World → Prop} {F : List Nat} {w : World} {H : List As} {l : List Oper} {o : Oper} {a : Act}
end
end Go.Proofs.Ytlbgelbhhibikaa

set_option linter.unusedSimpArgs false
set_option linter.unusedVariables false
namespace Go.Proofs.Ytlbgelbhhibikaa
open Go.RowKit
attribute [local irreducible] wpList wpTr wpX
section
variable {ops : Array Oper} {Q : Exit → Act → World → Prop} {F : List Nat} {w : World} {H H' : List As} {r : List Oper} {o : Oper} {a a' : Act}
end
end Go.Proofs.Ytlbgelbhhibikaa

set_option linter.unusedSimpArgs false
set_option linter.unusedVariables false
namespace Go.Proofs.Ytlbgelbhhibikaa
set_option maxRecDepth 100000
open Go.RowKit
/-- the lowest n bytes of a number, as a list -/
def lb (n V : Nat) : List UInt8 := (List.range n).map fun j => UInt8.ofNat (V / 2 ^ (8 * j) % 256)
theorem lb_length (n V : Nat) : (lb n V).length = n := by simp [lb]
theorem lb_get {n V j : Nat} (hj : j < n) : (lb n V)[j]? = some (UInt8.ofNat (V / 2 ^ (8 * j) % 256)) := by simp [lb, hj]
theorem lb_byt (V j : Nat) : ((UInt8.ofNat (V / 2 ^ (8 * j) % 256)).toNat : Int) = byt V j := by
  unfold byt
  rw [UInt8.toNat_ofNat', Nat.mod_mod]
theorem bs8_lb (n V : Nat) : bs8 (lb n V) = lstK .u8 n (byt V) := by
  unfold bs8 lb lstK
  rw [List.map_map]
  apply List.map_congr_left
  intro j _
  simp only [Function.comp, lb_byt]
theorem arrK_list (n : Nat) (f : Nat → Int) : (arrK .u8 n f).toList = lstK .u8 n f := rfl
/-- the number of a text's bytes, the lowest first -/
def le : List UInt8 → Nat
  | [] => 0
  | x :: r => x.toNat + 256 * le r
theorem lb_succ (n V : Nat) : lb (n + 1) V = UInt8.ofNat (V % 256) :: lb n (V / 256) := by
  unfold lb
  rw [List.range_succ_eq_map, List.map_cons, List.map_map]
  congr 1
  · rw [Nat.mul_zero, Nat.pow_zero, Nat.div_one]
  · apply List.map_congr_left
    intro j _
    simp only [Function.comp]
    rw [Nat.div_div_eq_div_mul, Nat.succ_eq_add_one, Nat.mul_add, Nat.pow_add, Nat.mul_comm (2 ^ (8 * j))]
theorem lb_le : ∀ l : List UInt8, lb l.length (le l) = l
  | [] => rfl
  | x :: r => by
    have hx : x.toNat < 256 := x.toNat_lt
    rw [List.length_cons, lb_succ]
    show UInt8.ofNat ((x.toNat + 256 * le r) % 256) :: lb r.length ((x.toNat + 256 * le r) / 256) = _
    rw [show (x.toNat + 256 * le r) % 256 = x.toNat by omega, show (x.toNat + 256 * le r) / 256 = le r by omega, lb_le r]
    congr 1
    exact UInt8.ofNat_toNat
theorem lb_le' {l : List UInt8} {n : Nat} (h : l.length = n) : lb n (le l) = l := h ▸ lb_le l
theorem sl_part {w : World} {b off n c V : Nat} {cs : Array Value} {t : TypeId} (h : Blk w b cs t) (hc : ∀ i v, (arrK .u8 n (byt V))[i]? = some v → cs[off + i]? = some v) (hn : n ≤ c) (hm : c ≤ maxLen) : Sl w (.slice (some ⟨b, off, none⟩) n c) (lb n V) :=
  sl_blk h (lb_length n V).symm hn hm fun j x hj => by
    have hj2 : j < n := by have := (List.getElem?_eq_some_iff.1 hj).1; rwa [lb_length] at this
    rw [lb_get hj2] at hj
    have := Option.some.inj hj
    subst this
    rw [lb_byt]
    exact hc j _ (arrK_get _ _ _ _ hj2)
end Go.Proofs.Ytlbgelbhhibikaa
