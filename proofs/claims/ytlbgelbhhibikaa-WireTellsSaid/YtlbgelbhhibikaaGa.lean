/- Words and small laws that all texts of this seat use: what a call that changes nothing old hands back, numbers of 64 bits, and four of them as one number. No conditions. Arrays of integers as functions of the place. No conditions. '==' between two arrays of integers, and index into one: laws over any program. math/bits.Sub64 and Add64 as the model has them, and chains of four of them as one number. Conditions: the words are words of 64 bits, the carry is 0 or 1. math/bits.Mul64: the product of two words in two words. Conditions: words of 64 bits. (The walk is the guide's own for this function, turned to this program's numbers.) Words of 64 bits as one number: what a store does to it. Bytes as one number, and the words it makes. No conditions. Numbers in parts of 16 bits: sums and differences part by part. No conditions. Sixteen parts of whatever size as one number; what is beyond 2^256 comes back 38 times. No conditions. -/
import Derived.WalkKit
import Derived.Laws.DeepBits32
import Derived.Laws.Rows
import Derived.OwnWalk
import Derived.Test.YtlbgelbhhibikaaChecked
import Derived.Lib.Mul64
import Derived.Laws.Shifts
set_option linter.unusedSimpArgs false
set_option linter.unusedVariables false
namespace Go.Proofs.Ytlbgelbhhibikaa
open Go.RowKit

/-! short names for the steps' laws of lists -/
theorem mA (l : List Value) (i : Nat) (a : Value) : l.toArray.setIfInBounds i a = (l.set i a).toArray := List.setIfInBounds_toArray l i a
theorem mB (a b : Value) (l : List Value) : (a :: l).set 0 b = b :: l := rfl
theorem mC (a b : Value) (l : List Value) (n : Nat) : (a :: l).set (n + 1) b = a :: l.set n b := rfl
theorem pn {a : Act} {v : Value} : Act.put a none v = a := rfl
/-- a frame as a list -/
theorem pl {l l' : List Value} {df : List Deferred} {d : Tmp} {v : Value} (h : l.set d v = l') : Act.put ⟨l.toArray, df⟩ (some d) v = ⟨l'.toArray, df⟩ := by
  subst h; simp only [Act.put, mA]

/-- The call hands back v, and nothing that was there before has turned. -/
def Ret (v : Value) (w w' : World) (e : Ending) : Prop := e = .returned v ∧ Below w.heap.size w w'
/-- Block b holds the cells cs, and may be written. -/
def Blk (w : World) (b : Nat) (cs : Array Value) (t : TypeId) : Prop := w.heap[b]? = some (.cells cs t (0, 0))
theorem blk_lt {w : World} {b : Nat} {cs : Array Value} {t : TypeId} (h : Blk w b cs t) : b < w.heap.size := lt_of_block h
theorem blk_cell {w : World} {b : Nat} {cs : Array Value} {t : TypeId} (h : Blk w b cs t) : ∀ j, w.cell? ⟨b, j, none⟩ = cs[j]? := fun j => by
  unfold Blk at h; simp [World.cell?, h]
theorem blk_free {w : World} {b : Nat} {cs : Array Value} {t : TypeId} (h : Blk w b cs t) : ∀ j, w.frozen? ⟨b, j, none⟩ = false := fun j => by
  unfold Blk at h; simp [World.frozen?, h]
theorem blk_below {B : Nat} {w w' : World} {b : Nat} {cs : Array Value} {t : TypeId} (h : Blk w b cs t) (hb : Below B w w') (hB : b < B) : Blk w' b cs t := by
  unfold Blk at *; rw [hb.block b hB]; exact h
theorem blk_step {w w' : World} {b : Nat} {cs : Array Value} {t : TypeId} (h : Blk w b cs t) (hb : Below w.heap.size w w') : Blk w' b cs t := blk_below h hb (blk_lt h)
theorem blk_new {w : World} {n : Nat} (cs : Array Value) (t : TypeId) (hn : n = w.heap.size) : Blk (w.alloc (.cells cs t)) n cs t := by
  subst hn; unfold Blk; show (w.heap.push _)[w.heap.size]? = _; simp
theorem blk_set {w : World} {b : Nat} {cs : Array Value} {t : TypeId} (h : Blk w b cs t) (j : Nat) (v : Value) : Blk (w.setCell ⟨b, j, none⟩ v) b (cs.setIfInBounds j v) t := by
  have hlt := blk_lt h
  unfold Blk at *
  have h' : w.heap[b] = .cells cs t (0, 0) := by simpa [Array.getElem?_eq_getElem hlt] using h
  show (w.heap.modify b _)[b]? = _
  rw [Array.getElem?_eq_getElem (by simpa using hlt), Array.getElem_modify_self, h']
  rfl
@[go_sem] def A4 (a0 a1 a2 a3 : Int) : Value := .agg #[.int .u64 a0, .int .u64 a1, .int .u64 a2, .int .u64 a3]
/-- limb i of n, 64 bits each -/
def lim (n : Nat) (i : Nat) : Int := ((n / 2 ^ (64 * i) % 18446744073709551616 : Nat) : Int)
@[go_sem] def L4 (n : Nat) : Value := .agg #[.int .u64 (lim n 0), .int .u64 (lim n 1), .int .u64 (lim n 2), .int .u64 (lim n 3)]
@[go_sem] def c4 (V : Nat) : Array Value := #[.int .u64 (lim V 0), .int .u64 (lim V 1), .int .u64 (lim V 2), .int .u64 (lim V 3)]
end Go.Proofs.Ytlbgelbhhibikaa

namespace Go.Proofs.Ytlbgelbhhibikaa
open Go.RowKit

/-- n cells of kind k, by a function. -/
def arrK (k : IntKind) (n : Nat) (f : Nat → Int) : Array Value := ((List.range n).map fun i => Value.int k (f i)).toArray
theorem arrK_size (k : IntKind) (n : Nat) (f : Nat → Int) : (arrK k n f).size = n := by simp [arrK]
theorem arrK_get (k : IntKind) (n : Nat) (f : Nat → Int) (i : Nat) (h : i < n) : (arrK k n f)[i]? = some (.int k (f i)) := by
  simp [arrK, h]
/-- byte i of n -/
def byt (n i : Nat) : Int := ((n / 2 ^ (8 * i) % 256 : Nat) : Int)
theorem arrK_one (k : IntKind) (n : Nat) (f : Nat → Int) : (arrK k n f).all (·.oneCell') = true := by
  simp [arrK, Value.oneCell']
theorem blk_setRow {w : World} {g : Nat} {old : Array Value} {t : TypeId} (h : Blk w g old t) (cs : Array Value) : Blk (w.setRow g cs) g cs t := setRow_heap w g old cs t (0, 0) h
/-! entering a function whose parameters lie in memory -/
section
variable {P : Program} {c : Code} {Q : Exit → Act → World → Prop} {a : Act} {w : World} {c1 c2 c3 c5 : Array Value} {t1 t2 t3 t5 : TypeId}
end
end Go.Proofs.Ytlbgelbhhibikaa

namespace Go.Proofs.Ytlbgelbhhibikaa
open Go.RowKit

end Go.Proofs.Ytlbgelbhhibikaa

namespace Go.Proofs.Ytlbgelbhhibikaa
open Go.RowKit
end Go.Proofs.Ytlbgelbhhibikaa

namespace Go.Proofs.Ytlbgelbhhibikaa
open Go.RowKit

end Go.Proofs.Ytlbgelbhhibikaa

namespace Go.Proofs.Ytlbgelbhhibikaa
open Go.RowKit

/-- part i of n, 16 bits each -/
def l16 (n i : Nat) : Int := ((n / 2 ^ (16 * i) % 65536 : Nat) : Int)
end Go.Proofs.Ytlbgelbhhibikaa

namespace Go.Proofs.Ytlbgelbhhibikaa
open Go.RowKit

end Go.Proofs.Ytlbgelbhhibikaa
