/- Arrays of integers as functions of the place. No conditions. -/
import Derived.Test.YteniajdmmffamaaBase
import Derived.Laws.Rows
import Derived.OwnWalk
namespace Go.Proofs.Yteniajdmmffamaa
set_option linter.unusedSimpArgs false
set_option linter.unusedVariables false
open Go.RowKit

/-- n cells of kind k, by a function. -/
def arrK (k : IntKind) (n : Nat) (f : Nat → Int) : Array Value := ((List.range n).map fun i => Value.int k (f i)).toArray
theorem arrK_size (k : IntKind) (n : Nat) (f : Nat → Int) : (arrK k n f).size = n := by simp [arrK]
theorem arrK_get (k : IntKind) (n : Nat) (f : Nat → Int) (i : Nat) (h : i < n) : (arrK k n f)[i]? = some (.int k (f i)) := by
  simp [arrK, h]
theorem arrK_congr (k : IntKind) (n : Nat) (f g : Nat → Int) (h : ∀ i, i < n → f i = g i) : arrK k n f = arrK k n g := by
  unfold arrK
  congr 1
  apply List.map_congr_left
  intro i hi
  rw [h i (by simpa using hi)]
def upd (f : Nat → Int) (i : Nat) (v : Int) : Nat → Int := fun j => if j = i then v else f j
theorem arrK_set (k : IntKind) (n : Nat) (f : Nat → Int) (i : Nat) (v : Int) : (arrK k n f).setIfInBounds i (.int k v) = arrK k n (upd f i v) := by
  apply Array.ext
  · simp [arrK]
  · intro j h1 h2
    simp only [arrK, List.size_toArray, List.length_map, List.length_range] at h2
    rw [Array.getElem_setIfInBounds (by rw [arrK_size]; exact h2)]
    simp only [arrK, List.getElem_toArray, List.getElem_map, List.getElem_range, upd]
    by_cases h : i = j
    · simp [h]
    · simp [h, Ne.symm h]
/-- byte i of n -/
def byt (n i : Nat) : Int := ((n / 2 ^ (8 * i) % 256 : Nat) : Int)
theorem byt_ok (n i : Nat) : 0 ≤ byt n i ∧ byt n i < 256 := by unfold byt; omega
theorem lim_byt (n i : Nat) : lim n (i / 8) / 2 ^ (8 * (i % 8)) % 256 = byt n i := by
  unfold lim byt
  have e : n / 2 ^ (8 * i) % 256 = n / 2 ^ (64 * (i / 8)) % 18446744073709551616 / 2 ^ (8 * (i % 8)) % 256 := by
    obtain ⟨q, r, hr8, rfl⟩ : ∃ q r, r < 8 ∧ i = 8 * q + r := ⟨i / 8, i % 8, by omega, by omega⟩
    rw [show 8 * (8 * q + r) = 64 * q + 8 * r by omega, show (8 * q + r) / 8 = q by omega, show (8 * q + r) % 8 = r by omega, Nat.pow_add, ← Nat.div_div_eq_div_mul]
    generalize n / 2 ^ (64 * q) = m
    have : r = 0 ∨ r = 1 ∨ r = 2 ∨ r = 3 ∨ r = 4 ∨ r = 5 ∨ r = 6 ∨ r = 7 := by omega
    rcases this with h | h | h | h | h | h | h | h <;> subst h <;> simp only [Nat.reduceMul, Nat.reducePow] <;> omega
  rw [e]
  generalize n / 2 ^ (64 * (i / 8)) % 18446744073709551616 = m
  simp only [Int.natCast_emod, Int.natCast_ediv, Int.natCast_pow]
  rfl
theorem arrK_one (k : IntKind) (n : Nat) (f : Nat → Int) : (arrK k n f).all (·.oneCell') = true := by
  simp [arrK, Value.oneCell']
theorem blk_setRow {w : World} {g : Nat} {old : Array Value} {t : TypeId} (h : Blk w g old t) (cs : Array Value) : Blk (w.setRow g cs) g cs t := setRow_heap w g old cs t (0, 0) h
theorem blk_setRow_other {w : World} {g b : Nat} {cs : Array Value} {t : TypeId} (h : Blk w b cs t) (hb : b ≠ g) (c' : Array Value) : Blk (w.setRow g c') b cs t := by
  unfold Blk at *; rw [setRow_other w g b c' hb]; exact h
theorem wpl_build {P : Program} {ops : Array Oper} {rest : List Oper} {o : Oper} {a : Act} {w : World} {Q : Exit → Act → World → Prop} (hg : o.guard = none) (t : TypeId) (parts : Array (Nat × Operand)) (ho : o.op = .build t parts) (cells : Array Value)
    (hf : P.built t (parts.map fun (i, x) => (i, a.eval x)).toList = some cells)
    (h : wpList P ops Q rest (a.put o.dst (.agg cells)) w) : wpList P ops Q (o :: rest) a w :=
  wpList_build hg t parts ho (by rw [hf]; rfl) (by rw [hf]; exact h)
theorem arrK_map (k : IntKind) (n : Nat) (f : Nat → Int) : arrK k n f = (((List.range n).map f).map (Value.int k)).toArray := by
  unfold arrK; rw [List.map_map]; rfl
end Go.Proofs.Yteniajdmmffamaa
