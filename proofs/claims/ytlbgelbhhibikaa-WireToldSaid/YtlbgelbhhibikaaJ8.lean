/- What the rows of this seat share: structs, texts, slices, sums out of the arguments; a world for the witness. No conditions. Words of 64 bits as the model reckons with them; arrays by a place that varies. No conditions. sha5.turn, the document's turn: a word turned to the right. No conditions. sha5.spread: a block as 80 words. Conditions: the slice has 128 bytes. sha5.press: a block worked into eight words. Conditions: the slice has 128 bytes; the cells of the two tables hold their numbers. Rows of noughts, bytes of numbers, blocks of a sum: what sums of all kinds share. No conditions. -/
import Derived.Test.YtlbgelbhhibikaaRows
import Derived.Test.YtlbgelbhhibikaaJ7
import Derived.ProofKit
import Derived.OpenShut
import Derived.Deep.Slices
import Derived.Deep.DeepHandedRow
import Derived.Carry
import Derived.Test.YtlbgelbhhibikaaGc
import Derived.Laws.BitsLemmas
import Derived.Lib.AppendZeros
set_option linter.unusedSimpArgs false
set_option linter.unusedVariables false
namespace Go.Proofs.Ytlbgelbhhibikaa
set_option maxRecDepth 100000
open Go.ChangeShapes Go.WideShapes Go.ChangeAt Go.RowKit Go.Deep
theorem own : ownKnob Try.prog.godebug = none := by kernel_rfl
theorem laidOut : laidOutB Try.prog = true := by kernel_rfl
theorem cellsU8 : Try.prog.cellsOf 5 = 1 := by kernel_rfl
/-- A world for the witness. -/
noncomputable def setWorld (os : Os) : World := World.holding Try.prog os ⟨#[], #[], []⟩
section
variable {H : Type} {enc : TypeId × Value → H} {W : World} {base : Nat} {sp : Nat → Bool} {held : Bool}
theorem sl_of_trod {fuel : Nat} {cs : List Value} {x : DataW H × List MemPlace} (h : DataW.trod enc Try.prog W base sp held fuel 26 cs = some x) : ∃ u l, (Sl W u l ∧ l.length ≤ maxLen) ∧ cs = [u] := by
  rcases open_slice Try.underlying26 h with ⟨rfl, _⟩ | ⟨a, len, cap, m, n, D, Pl, rfl, _, hl, hm, hmm, _, hi⟩
  · exact ⟨_, [], ⟨sl_nil W, by simp⟩, rfl⟩
  · have hlm : len ≤ m := by rw [hmm]; split <;> omega
    have key : ∀ i, i < len → ∃ c : UInt8, W.cell? (a.add i) = some (.int .u8 (c.toNat : Int)) := by
      intro i hi'
      obtain ⟨cs', h1, h2⟩ := hi i (by omega)
      rw [cellsU8, Nat.mul_one] at h1
      obtain ⟨_, hcl, hcell⟩ := World.cells?_some h1
      obtain ⟨z, hz, _, hw⟩ := DataW.trod_int Try.underlying5 h2
      have hb := bounds_u8 hw
      refine ⟨UInt8.ofNat z.toNat, ?_⟩
      have e : ((UInt8.ofNat z.toNat).toNat : Int) = z := by rw [UInt8.toNat_ofNat']; omega
      have := hcell 0 (by omega)
      rw [hz] at this
      rw [e]
      have e0 : ∀ b : Addr, b.add 0 = b := fun b => by unfold Addr.add; simp
      rw [e0] at this
      simpa using this
    refine ⟨_, (List.range len).map fun i => if h : i < len then Classical.choose (key i h) else 0, ⟨⟨some a, cap, by simp, by simpa using hl, hm, (fun h => by cases h), fun j x hj => ⟨a, rfl, ?_⟩⟩, by simp; omega⟩, rfl⟩
    have hjl : j < len := by have := (List.getElem?_eq_some_iff.1 hj).1; simpa using this
    simp [hjl] at hj
    subst hj
    exact Classical.choose_spec (key j hjl)
theorem open_sl {r : Reach} {b0 : Nat} {v : Value} {d : DataW H} {ps : List MemPlace} (hval : Value.okWide Try.prog W r b0 26 v) (hd : DataW.Trod enc Try.prog W base sp held 26 v d ps) : ∃ l, Sl W v l ∧ l.length ≤ maxLen := by
  obtain ⟨ao, len, cap, rfl⟩ := okWide_slice Try.underlying26 hval
  obtain ⟨fuel, hf⟩ := hd
  obtain ⟨u, l, ⟨h1, h2⟩, hc⟩ := sl_of_trod hf
  simp [Value.cells] at hc
  subst hc
  exact ⟨l, h1, h2⟩
end
end Go.Proofs.Ytlbgelbhhibikaa

set_option linter.unusedSimpArgs false
set_option linter.unusedVariables false
namespace Go.Proofs.Ytlbgelbhhibikaa
open Go.RowKit

def an (p q : Int) : Int := bits .and .u64 p q
def oo (p q : Int) : Int := bits .or .u64 p q
def ad (p q : Int) : Int := IntKind.wrap .u64 (p + q)
def sl (p : Int) (n : Nat) : Int := IntKind.wrap .u64 (p * 2 ^ n)
section
variable {P : Program} {w : World} {o : Oper} {a : Act} {x y : Operand} {t t' : TypeId} {p q : Int}
end
end Go.Proofs.Ytlbgelbhhibikaa

set_option linter.unusedSimpArgs false
set_option linter.unusedVariables false
namespace Go.Proofs.Ytlbgelbhhibikaa
open Go.RowKit
set_option linter.unusedSimpArgs false
end Go.Proofs.Ytlbgelbhhibikaa

namespace Go.Proofs.Ytlbgelbhhibikaa
open Go.RowKit

section
variable {w : World} {o : Oper} {a : Act}
end
/-- the byte of a number -/
def u8 (n : Nat) : UInt8 := UInt8.ofNat n
theorem u8_nat (n : Nat) : (u8 n).toNat = n % 256 := UInt8.toNat_ofNat'
def be8 (X : Nat) : List UInt8 := [u8 (X / 72057594037927936), u8 (X / 281474976710656), u8 (X / 1099511627776), u8 (X / 4294967296), u8 (X / 16777216), u8 (X / 65536), u8 (X / 256), u8 X]
def w8 (x : Int) : Int := IntKind.wrap .u8 x
section
variable {P : Program} {w : World} {o : Oper} {a : Act} {x y : Operand} {t t' : TypeId} {p q : Int}
end
end Go.Proofs.Ytlbgelbhhibikaa
