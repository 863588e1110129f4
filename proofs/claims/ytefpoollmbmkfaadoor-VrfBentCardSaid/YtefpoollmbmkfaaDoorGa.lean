/- Words and small laws that all texts of this seat use: what a call that changes nothing old hands back, numbers of 64 bits, and four of them as one number. No conditions. Arrays of integers as functions of the place. No conditions. '==' between two arrays of integers, and index into one: laws over any program. math/bits.Sub64 and Add64 as the model has them, and chains of four of them as one number. Conditions: the words are words of 64 bits, the carry is 0 or 1. math/bits.Mul64: the product of two words in two words. Conditions: words of 64 bits. (The walk is the guide's own for this function, turned to this program's numbers.) Words of 64 bits as one number: what a store does to it. Bytes as one number, and the words it makes. No conditions. Numbers in parts of 16 bits: sums and differences part by part. No conditions. Sixteen parts of whatever size as one number; what is beyond 2^256 comes back 38 times. No conditions. -/
import Derived.WalkKit
import Derived.Laws.DeepBits32
import Derived.Laws.Rows
import Derived.OwnWalk
import Derived.Test.YtefpoollmbmkfaaDoorChecked
import Derived.Lib.Mul64
import Derived.Laws.Shifts
set_option linter.unusedSimpArgs false
set_option linter.unusedVariables false
namespace Go.Proofs.YtefpoollmbmkfaaDoor
open Go.RowKit

/-! short names for the steps' laws of lists -/
theorem mA (l : List Value) (i : Nat) (a : Value) : l.toArray.setIfInBounds i a = (l.set i a).toArray := List.setIfInBounds_toArray l i a
theorem mB (a b : Value) (l : List Value) : (a :: l).set 0 b = b :: l := rfl
theorem mC (a b : Value) (l : List Value) (n : Nat) : (a :: l).set (n + 1) b = a :: l.set n b := rfl
theorem pn {a : Act} {v : Value} : Act.put a none v = a := rfl
theorem pl {l l' : List Value} {df : List Deferred} {d : Tmp} {v : Value} (h : l.set d v = l') : Act.put ⟨l.toArray, df⟩ (some d) v = ⟨l'.toArray, df⟩ := by
  subst h; simp only [Act.put, mA]

def Ret (v : Value) (w w' : World) (e : Ending) : Prop := e = .returned v ∧ Below w.heap.size w w'
theorem Z5 {B : Nat} {a w w1 : World} (h : Below B a w) (h1 : Below w.heap.size w w1) (hB : B ≤ w.heap.size) : Below B a w1 := h.trans (h1.mono hB)
theorem Y8 {B c : Nat} {a w : World} (h : Below B a w) (hc : B ≤ c) (j : Nat) (v : Value) : Below B a (w.setCell ⟨c, j, none⟩ v) := h.setCell hc v
theorem Y5 {B g : Nat} {a w : World} (h : Below B a w) (hg : B ≤ g) (c' : Array Value) : Below B a (w.setRow g c') :=
  h.trans ⟨rfl, rfl, rfl, by simp, fun k hk => setRow_other w g k c' (by omega)⟩
theorem bz {B : Nat} {w W : World} (h : Below B w W := by (repeat' (first | (with_reducible assumption) | (with_reducible exact Below.refl _ _) | (with_reducible refine Below.drew ?_) | (with_reducible refine Below.alloc ?_ ?_ _) | (with_reducible refine Y8 ?_ ?_ _ _) | (with_reducible refine Y5 ?_ ?_ _) | (with_reducible refine Z5 ?_ (by assumption) ?_))) <;> (first | omega | ((try simp only [World.size_alloc, World.size_setCell, World.size_drew, size_setRow]); omega))) : Below B w W := h
theorem Y6z {W w1 : World} (hb : Below W.heap.size W w1) : (∀ b o, b < W.heap.size → w1.cell? ⟨b, o, none⟩ = W.cell? ⟨b, o, none⟩) ∧ (∀ b o, b < W.heap.size → w1.frozen? ⟨b, o, none⟩ = W.frozen? ⟨b, o, none⟩) :=
  ⟨fun b o h => hb.cell (p := ⟨b, o, none⟩) h, fun b o h => hb.frozen (p := ⟨b, o, none⟩) h⟩

theorem Z05 {P : Program} {c : Code} {Q : Exit → Act → World → Prop} {a : Act} {w : World} (F : World → Prop) (h : F w) (k : ∀ W, F W → c.wp P Q a W) : c.wp P Q a w := k w h
theorem J7y {K : Act → World → Prop} {Q : Exit → Act → World → Prop} {a : Act} {w : World} (F : World → Prop) (h : F w) (k : ∀ W, F W → Exit.then K Q .normal a W) : Exit.then K Q .normal a w := k w h
theorem Q6w {P : Program} {ops : Array Oper} {l : List Oper} {Q : Exit → Act → World → Prop} {a : Act} {w : World} (F : World → Prop) (h : F w) (k : ∀ W, F W → wpList P ops Q l a W) : wpList P ops Q l a w := k w h
def Blk (w : World) (b : Nat) (cs : Array Value) (t : TypeId) : Prop := w.heap[b]? = some (.cells cs t (0, 0))
theorem J5 {w : World} {b : Nat} {cs : Array Value} {t : TypeId} (h : Blk w b cs t) : b < w.heap.size := lt_of_block h
theorem Q8 {w : World} {b : Nat} {cs : Array Value} {t : TypeId} (h : Blk w b cs t) : ∀ j, w.cell? ⟨b, j, none⟩ = cs[j]? := fun j => by
  unfold Blk at h; simp [World.cell?, h]
theorem K5 {w : World} {b : Nat} {cs : Array Value} {t : TypeId} (h : Blk w b cs t) : ∀ j, w.frozen? ⟨b, j, none⟩ = false := fun j => by
  unfold Blk at h; simp [World.frozen?, h]
theorem Q6x {B : Nat} {w w' : World} {b : Nat} {cs : Array Value} {t : TypeId} (h : Blk w b cs t) (hb : Below B w w') (hB : b < B) : Blk w' b cs t := by
  unfold Blk at *; rw [hb.block b hB]; exact h
theorem J2 {w w' : World} {b : Nat} {cs : Array Value} {t : TypeId} (h : Blk w b cs t) (hb : Below w.heap.size w w') : Blk w' b cs t := Q6x h hb (J5 h)
theorem V3 {w : World} {b : Nat} {cs : Array Value} {t : TypeId} (h : Blk w b cs t) (o : Obj) : Blk (w.alloc o) b cs t := by
  have := J5 h
  unfold Blk at *; rw [Below.heap_alloc _ _ _ this]; exact h
theorem K0 {w : World} {n : Nat} (cs : Array Value) (t : TypeId) (hn : n = w.heap.size) : Blk (w.alloc (.cells cs t)) n cs t := by
  subst hn; unfold Blk; show (w.heap.push _)[w.heap.size]? = _; simp
theorem V4 {w : World} {b : Nat} {cs : Array Value} {t : TypeId} (h : Blk w b cs t) : Blk w.drew b cs t := h
theorem V1 {w : World} {b : Nat} {cs : Array Value} {t : TypeId} (h : Blk w b cs t) (j : Nat) (v : Value) : Blk (w.setCell ⟨b, j, none⟩ v) b (cs.setIfInBounds j v) t := by
  have hlt := J5 h
  unfold Blk at *
  have h' : w.heap[b] = .cells cs t (0, 0) := by simpa [Array.getElem?_eq_getElem hlt] using h
  show (w.heap.modify b _)[b]? = _
  rw [Array.getElem?_eq_getElem (by simpa using hlt), Array.getElem_modify_self, h']
  rfl
theorem Q21 {w : World} {b : Nat} {x0 x1 x2 x3 : Value} {t : TypeId} (h : Blk w b #[x0, x1, x2, x3] t) (y0 y1 y2 y3 : Value) :
    Blk ((((w.setCell ⟨b, 0, none⟩ y0).setCell ⟨b, 1, none⟩ y1).setCell ⟨b, 2, none⟩ y2).setCell ⟨b, 3, none⟩ y3) b #[y0, y1, y2, y3] t :=
  V1 (V1 (V1 (V1 h 0 y0) 1 y1) 2 y2) 3 y3
theorem J5o {w : World} {b c : Nat} {cs : Array Value} {t : TypeId} (h : Blk w b cs t) (hbc : b ≠ c) (y0 y1 y2 y3 : Value) :
    Blk ((((w.setCell ⟨c, 0, none⟩ y0).setCell ⟨c, 1, none⟩ y1).setCell ⟨c, 2, none⟩ y2).setCell ⟨c, 3, none⟩ y3) b cs t := by
  unfold Blk at *
  rw [Below.heap_setCell _ _ _ _ hbc, Below.heap_setCell _ _ _ _ hbc, Below.heap_setCell _ _ _ _ hbc, Below.heap_setCell _ _ _ _ hbc]; exact h
theorem J9 {w : World} {b c : Nat} {cs : Array Value} {t : TypeId} (h : Blk w b cs t) (hbc : b ≠ c) (j : Nat) (v : Value) : Blk (w.setCell ⟨c, j, none⟩ v) b cs t := by
  unfold Blk at *; rw [Below.heap_setCell _ _ _ _ hbc]; exact h

def Z0 : Nat := 115792089237316195423570985008687907853269984665640564039457584007913129639936
def K4 (x : Int) : Prop := 0 ≤ x ∧ x < 18446744073709551616
def U4 (a0 a1 a2 a3 : Int) : Prop := K4 a0 ∧ K4 a1 ∧ K4 a2 ∧ K4 a3
@[go_sem] def A4 (a0 a1 a2 a3 : Int) : Value := .agg #[.int .u64 a0, .int .u64 a1, .int .u64 a2, .int .u64 a3]
def lim (n : Nat) (i : Nat) : Int := ((n / 2 ^ (64 * i) % 18446744073709551616 : Nat) : Int)
@[go_sem] def L4 (n : Nat) : Value := .agg #[.int .u64 (lim n 0), .int .u64 (lim n 1), .int .u64 (lim n 2), .int .u64 (lim n 3)]
@[go_sem] def c4 (V : Nat) : Array Value := #[.int .u64 (lim V 0), .int .u64 (lim V 1), .int .u64 (lim V 2), .int .u64 (lim V 3)]
def J1g (a0 a1 a2 a3 : Int) : Nat := a0.toNat + 18446744073709551616 * a1.toNat + 340282366920938463463374607431768211456 * a2.toNat + 6277101735386680763835789423207666416102355444464034512896 * a3.toNat
theorem J1h (n i : Nat) : K4 (lim n i) := by unfold K4 lim; omega
theorem J6z (n : Nat) : U4 (lim n 0) (lim n 1) (lim n 2) (lim n 3) := ⟨J1h n 0, J1h n 1, J1h n 2, J1h n 3⟩
theorem Z9b (a0 a1 a2 a3 : Int) (h : U4 a0 a1 a2 a3) :
    lim (J1g a0 a1 a2 a3) 0 = a0 ∧ lim (J1g a0 a1 a2 a3) 1 = a1 ∧ lim (J1g a0 a1 a2 a3) 2 = a2 ∧ lim (J1g a0 a1 a2 a3) 3 = a3 := by
  unfold lim J1g U4 K4 at *
  simp only [Nat.reduceMul, Nat.reducePow]
  omega
theorem J2s (n : Nat) (h : n < 115792089237316195423570985008687907853269984665640564039457584007913129639936) : J1g (lim n 0) (lim n 1) (lim n 2) (lim n 3) = n := by
  unfold lim J1g
  simp only [Nat.reduceMul, Nat.reducePow] at *
  omega
theorem Q0k (a0 a1 a2 a3 : Int) (h : U4 a0 a1 a2 a3) : J1g a0 a1 a2 a3 < 115792089237316195423570985008687907853269984665640564039457584007913129639936 := by
  unfold J1g U4 K4 at *
  omega
theorem J67 (a0 a1 a2 a3 : Int) (h : U4 a0 a1 a2 a3) : (J1g a0 a1 a2 a3 : Int) = a0 + 18446744073709551616 * a1 + 340282366920938463463374607431768211456 * a2 + 6277101735386680763835789423207666416102355444464034512896 * a3 := by
  obtain ⟨⟨x0, _⟩, ⟨x1, _⟩, ⟨x2, _⟩, ⟨x3, _⟩⟩ := h
  unfold J1g
  simp only [Int.natCast_add, Int.natCast_mul, Int.toNat_of_nonneg x0, Int.toNat_of_nonneg x1, Int.toNat_of_nonneg x2, Int.toNat_of_nonneg x3]
  rfl
theorem Z40 (a0 a1 a2 a3 : Int) (h : U4 a0 a1 a2 a3) : A4 a0 a1 a2 a3 = L4 (J1g a0 a1 a2 a3) := by
  obtain ⟨h0, h1, h2, h3⟩ := Z9b a0 a1 a2 a3 h
  unfold L4
  rw [h0, h1, h2, h3]; rfl
theorem Z41 {m n : Nat} (h : m = n) : L4 m = L4 n := by rw [h]

theorem Q4b (x b : Int) (hx : K4 x) (h0 : 0 ≤ b) (h1 : b ≤ 1) : bits .or .u64 (IntKind.wrap .u64 (x * 2)) b = x * 2 % 18446744073709551616 + b := by
  obtain ⟨x0, x1⟩ := hx
  obtain ⟨X, rfl⟩ := Int.eq_ofNat_of_zero_le x0
  obtain ⟨B, rfl⟩ := Int.eq_ofNat_of_zero_le h0
  have e : IntKind.wrap .u64 ((X : Int) * 2) = ((X * 2 % 18446744073709551616 : Nat) : Int) := by
    simp [IntKind.wrap, IntKind.signed, IntKind.bits]
  rw [e, bits_or_u64_nat _ _ (by omega) (by omega), or_bit _ _ (by omega) (by omega)]
  omega
end Go.Proofs.YtefpoollmbmkfaaDoor

namespace Go.Proofs.YtefpoollmbmkfaaDoor
open Go.RowKit

def J1 (k : IntKind) (n : Nat) (f : Nat → Int) : Array Value := ((List.range n).map fun i => Value.int k (f i)).toArray
theorem Q1 (k : IntKind) (n : Nat) (f : Nat → Int) : (J1 k n f).size = n := by simp [J1]
theorem J6 (k : IntKind) (n : Nat) (f : Nat → Int) (i : Nat) (h : i < n) : (J1 k n f)[i]? = some (.int k (f i)) := by
  simp [J1, h]
theorem J0d (k : IntKind) (n : Nat) (f g : Nat → Int) (h : ∀ i, i < n → f i = g i) : J1 k n f = J1 k n g := by
  unfold J1
  congr 1
  apply List.map_congr_left
  intro i hi
  rw [h i (by simpa using hi)]
def upd (f : Nat → Int) (i : Nat) (v : Int) : Nat → Int := fun j => if j = i then v else f j
theorem J04 (k : IntKind) (n : Nat) (f : Nat → Int) (i : Nat) (v : Int) : (J1 k n f).setIfInBounds i (.int k v) = J1 k n (upd f i v) := by
  apply Array.ext
  · simp [J1]
  · intro j h1 h2
    simp only [J1, List.size_toArray, List.length_map, List.length_range] at h2
    rw [Array.getElem_setIfInBounds (by rw [Q1]; exact h2)]
    simp only [J1, List.getElem_toArray, List.getElem_map, List.getElem_range, upd]
    by_cases h : i = j
    · simp [h]
    · simp [h, Ne.symm h]
def Q6 (n i : Nat) : Int := ((n / 2 ^ (8 * i) % 256 : Nat) : Int)
theorem J4p (n i : Nat) : 0 ≤ Q6 n i ∧ Q6 n i < 256 := by unfold Q6; omega
theorem Z3a (n i : Nat) : lim n (i / 8) / 2 ^ (8 * (i % 8)) % 256 = Q6 n i := by
  unfold lim Q6
  have e : n / 2 ^ (8 * i) % 256 = n / 2 ^ (64 * (i / 8)) % 18446744073709551616 / 2 ^ (8 * (i % 8)) % 256 := by
    obtain ⟨q, r, hr8, rfl⟩ : ∃ q r, r < 8 ∧ i = 8 * q + r := ⟨i / 8, i % 8, by omega, by omega⟩
    rw [show 8 * (8 * q + r) = 64 * q + 8 * r by omega, show (8 * q + r) / 8 = q by omega, show (8 * q + r) % 8 = r by omega, Nat.pow_add, ← Nat.div_div_eq_div_mul]
    generalize n / 2 ^ (64 * q) = m
    have : r = 0 ∨ r = 1 ∨ r = 2 ∨ r = 3 ∨ r = 4 ∨ r = 5 ∨ r = 6 ∨ r = 7 := by omega
    rcases this with h | h | h | h | h | h | h | h <;> subst h <;> simp only [Nat.reduceMul, Nat.reducePow] <;> omega
  rw [e]
  generalize n / 2 ^ (64 * (i / 8)) % 18446744073709551616 = m
  simp only [Int.natCast_emod, Int.natCast_ediv, Int.natCast_pow]
  rfl
theorem Y7 (k : IntKind) (n : Nat) (f : Nat → Int) : (J1 k n f).all (·.oneCell') = true := by
  simp [J1, Value.oneCell']
theorem V0 {w : World} {g : Nat} {old : Array Value} {t : TypeId} (h : Blk w g old t) (cs : Array Value) : Blk (w.setRow g cs) g cs t := setRow_heap w g old cs t (0, 0) h
theorem J4 {w : World} {g b : Nat} {cs : Array Value} {t : TypeId} (h : Blk w b cs t) (hb : b ≠ g) (c' : Array Value) : Blk (w.setRow g c') b cs t := by
  unfold Blk at *; rw [setRow_other w g b c' hb]; exact h
/-! entering a function whose parameters lie in memory -/
section
variable {P : Program} {c : Code} {Q : Exit → Act → World → Prop} {a : Act} {w : World} {c1 c2 c3 c5 : Array Value} {t1 t2 t3 t5 : TypeId}
theorem wn1 (h : ∀ W, Below w.heap.size w W → Blk W w.heap.size c1 t1 → c.wp P Q a W) : c.wp P Q a (w.alloc (.cells c1 t1)) :=
  h _ ((Below.refl _ _).alloc (Nat.le_refl _) _) (K0 _ _ rfl)
theorem wn2 (h : ∀ W, Below w.heap.size w W → Blk W w.heap.size c1 t1 → Blk W (w.heap.size + 1) c2 t2 → c.wp P Q a W) : c.wp P Q a ((w.alloc (.cells c1 t1)).alloc (.cells c2 t2)) :=
  h _ (((Below.refl _ _).alloc (Nat.le_refl _) _).alloc (by simp) _) (V3 (K0 _ _ rfl) _) (K0 _ _ (by simp))
theorem wn3 (h : ∀ W, Below w.heap.size w W → Blk W w.heap.size c1 t1 → Blk W (w.heap.size + 1) c2 t2 → Blk W (w.heap.size + 2) c3 t3 → c.wp P Q a W) : c.wp P Q a (((w.alloc (.cells c1 t1)).alloc (.cells c2 t2)).alloc (.cells c3 t3)) :=
  h _ ((((Below.refl _ _).alloc (Nat.le_refl _) _).alloc (by simp) _).alloc (by simp only [World.size_alloc]; omega) _) (V3 (V3 (K0 _ _ rfl) _) _) (V3 (K0 _ _ (by simp)) _) (K0 _ _ (by simp))
theorem wn4 (h : ∀ W, Below w.heap.size w W → Blk W w.heap.size c1 t1 → Blk W (w.heap.size + 1) c2 t2 → Blk W (w.heap.size + 2) c3 t3 → Blk W (w.heap.size + 3) c5 t5 → c.wp P Q a W) : c.wp P Q a ((((w.alloc (.cells c1 t1)).alloc (.cells c2 t2)).alloc (.cells c3 t3)).alloc (.cells c5 t5)) :=
  h _ (((((Below.refl _ _).alloc (Nat.le_refl _) _).alloc (by simp) _).alloc (by simp only [World.size_alloc]; omega) _).alloc (by simp only [World.size_alloc]; omega) _) (V3 (V3 (V3 (K0 _ _ rfl) _) _) _) (V3 (V3 (K0 _ _ (by simp)) _) _) (V3 (K0 _ _ (by simp)) _) (K0 _ _ (by simp))
end
theorem V2 {α : Sort _} (n : α) : ∃ X, X = n := ⟨n, rfl⟩
theorem Q6y {P : Program} {ops : Array Oper} {rest : List Oper} {o : Oper} {a : Act} {w : World} {Q : Exit → Act → World → Prop} (hg : o.guard = none) (t : TypeId) (parts : Array (Nat × Operand)) (ho : o.op = .build t parts) (cells : Array Value)
    (hf : P.built t (parts.map fun (i, x) => (i, a.eval x)).toList = some cells)
    (h : wpList P ops Q rest (a.put o.dst (.agg cells)) w) : wpList P ops Q (o :: rest) a w :=
  wpList_build hg t parts ho (by rw [hf]; rfl) (by rw [hf]; exact h)
theorem Z06 (k : IntKind) (n : Nat) (f : Nat → Int) : J1 k n f = (((List.range n).map f).map (Value.int k)).toArray := by
  unfold J1; rw [List.map_map]; rfl
end Go.Proofs.YtefpoollmbmkfaaDoor

namespace Go.Proofs.YtefpoollmbmkfaaDoor
open Go.RowKit

def J7q (f g : Nat → Int) : Nat → Nat → Bool
  | _, 0 => true
  | s, m + 1 => (f s == g s) && J7q f g (s + 1) m
theorem Q3o (f g : Nat → Int) : ∀ m s, J7q f g s m = true ↔ ∀ i, s ≤ i → i < s + m → f i = g i
  | 0, s => by simp [J7q]; omega
  | m + 1, s => by
    simp only [J7q, Bool.and_eq_true, beq_iff_eq, Q3o f g m (s + 1)]
    constructor
    · rintro ⟨h0, h1⟩ i hi hlt
      by_cases h : i = s
      · subst h; exact h0
      · exact h1 i (by omega) (by omega)
    · intro h
      exact ⟨h s (by omega) (by omega), fun i hi hlt => h i (by omega) (by omega)⟩
def Z42 (n : Nat) (f g : Nat → Int) : Bool := J7q f g 0 n
theorem Q13 (n : Nat) (f g : Nat → Int) : Z42 n f g = true ↔ ∀ i, i < n → f i = g i := by
  unfold Z42; rw [Q3o]; constructor
  · intro h i hi; exact h i (by omega) (by omega)
  · intro h i _ hi; exact h i (by omega)

theorem J8u {P : Program} (w : World) (e : TypeId) (k : IntKind) (he : P.underlying e = some (.int k)) (xs : Array Value) (i : Nat) (v : Value) (hv : xs[i]? = some v) : (part e xs i).run P w = .ok v w := by
  have h1 : (isAgg e).run P w = .ok false w := by
    unfold isAgg; rw [Sem.run_bind, run_underlying he w]; rfl
  simp [part, Sem.run_bind, h1, hv]

theorem Q5r {P : Program} (w : World) (d : Nat) (e : TypeId) (k : IntKind) (he : P.underlying e = some (.int k)) (xs ys : Array Value) (f g : Nat → Int) : ∀ (m s : Nat),
    (∀ i, s ≤ i → i < s + m → xs[i]? = some (.int k (f i))) → (∀ i, s ≤ i → i < s + m → ys[i]? = some (.int k (g i))) →
    Sem.run P (forIn (List.range' s m) ((none, ()) : Option Bool × Unit) fun i _ => do
        let a ← part e xs (i * 1)
        let b ← part e ys (i * 1)
        let c ← Op.equalIn (d + 1) e a b
        if c = false then pure (ForInStep.done (some false, ())) else pure (ForInStep.yield (none, ()))) w =
      .ok (if J7q f g s m then (none, ()) else (some false, ())) w
  | 0, s, _, _ => by simp [J7q]
  | m + 1, s, hx, hy => by
    rw [List.range'_succ, List.forIn_cons]
    simp only [Nat.mul_one, Sem.run_bind, J8u w e k he xs s _ (hx s (by omega) (by omega)), J8u w e k he ys s _ (hy s (by omega) (by omega)), Result.andThen_ok, run_equalIn_int w d e k k _ _ he]
    by_cases h : f s = g s
    · have ih := Q5r w d e k he xs ys f g m (s + 1) (fun i h1 h2 => hx i (by omega) (by omega)) (fun i h1 h2 => hy i (by omega) (by omega))
      simp only [Nat.mul_one] at ih
      simp [h, J7q, ih]
    · simp [h, J7q]

theorem J6f {P : Program} (w : World) (d : Nat) (t e n : Nat) (k : IntKind) (xs ys : Array Value) (f g : Nat → Int) (ht : P.underlying t = some (.array n e)) (he : P.underlying e = some (.int k)) (hs : (P.info? e).map (·.size) = some 1)
    (hx : ∀ i, i < n → xs[i]? = some (.int k (f i))) (hy : ∀ i, i < n → ys[i]? = some (.int k (g i))) :
    (Op.equalIn (d + 2) t (.agg xs) (.agg ys)).run P w = .ok (Z42 n f g) w := by
  have hsz : (sizeOf e).run P w = .ok 1 w := by
    cases hq : P.info? e with
    | none => simp [hq] at hs
    | some i => simp [hq] at hs; simp [sizeOf, typeInfo, hq, hs]
  have hl := Q5r w d e k he xs ys f g n 0 (fun i _ h => hx i (by omega)) (fun i _ h => hy i (by omega))
  rw [Op.equalIn]
  simp [run_underlying ht, hsz]
  simp only [Nat.mul_one] at hl
  rw [hl]
  unfold Z42
  cases J7q f g 0 n <;> simp

theorem J2c {P : Program} (w : World) (t e n : Nat) (k k' : IntKind) (xs : Array Value) (i : Nat) (x : Int) (ht : P.underlying t = some (.array n e)) (he : P.underlying e = some (.int k)) (hs : (P.info? e).map (·.size) = some 1) (hi : i < n) (hx : xs[i]? = some (.int k x)) :
    (Instr.index t (.agg xs) (.int k' (i : Int))).run P w = .ok (.int k x) w := by
  have hsz : (sizeOf e).run P w = .ok 1 w := by
    cases hq : P.info? e with
    | none => simp [hq] at hs
    | some i => simp [hq] at hs; simp [sizeOf, typeInfo, hq, hs]
  have hp := J8u w e k he xs i _ hx
  simp [Instr.index, asIntOf, run_underlying ht, hsz, hi, hp]
end Go.Proofs.YtefpoollmbmkfaaDoor

namespace Go.Proofs.YtefpoollmbmkfaaDoor
open Go.RowKit

def sbD (x y b : Int) : Int := (x - y - b) % 18446744073709551616
def sbB (x y b : Int) : Int := if x < y + b then 1 else 0
theorem J6k (x y b : Int) : 0 ≤ sbB x y b ∧ sbB x y b ≤ 1 := by unfold sbB; split <;> omega
theorem Q4c (x y b : Int) (hx : K4 x) (hy : K4 y) (h0 : 0 ≤ b) (h1 : b ≤ 1) : sbD x y b = x - y - b + 18446744073709551616 * sbB x y b ∧ K4 (sbD x y b) := by
  unfold K4 sbD sbB at *; split <;> omega
def Q1a : Array Value → Sem Value := fun args => do
  let (x, y, b) ← Extern.MathBitsCarry.three "Sub64" args
  pure (Extern.MathBitsCarry.pair ((x + Extern.MathBitsCarry.m64 - y - b) % Extern.MathBitsCarry.m64) (if x < y + b then 1 else 0))
theorem Z64 {P : Program} (x y c : Int) (hx : K4 x) (hy : K4 y) (hc0 : 0 ≤ c) (hc : c ≤ 1) (w : World) :
    (Q1a #[.int .u64 x, .int .u64 y, .int .u64 c]).run P w = .ok (.tuple #[.int .u64 (sbD x y c), .int .u64 (sbB x y c)]) w := by
  have key : ∀ k : Nat, k ≤ 1 → (Q1a #[.int .u64 x, .int .u64 y, .int .u64 (k : Int)]).run P w =
      .ok (Extern.MathBitsCarry.pair ((x.toNat + Extern.MathBitsCarry.m64 - y.toNat - k) % Extern.MathBitsCarry.m64) (if x.toNat < y.toNat + k then 1 else 0)) w := by
    intro k hk
    have : k = 0 ∨ k = 1 := by omega
    rcases this with rfl | rfl <;> rfl
  obtain ⟨k, rfl⟩ := Int.eq_ofNat_of_zero_le hc0
  rw [key k (by omega)]
  obtain ⟨hx0, hx1⟩ := hx
  obtain ⟨hy0, hy1⟩ := hy
  obtain ⟨X, rfl⟩ := Int.eq_ofNat_of_zero_le hx0
  obtain ⟨Y, rfl⟩ := Int.eq_ofNat_of_zero_le hy0
  have e1 : Int.ofNat ((X + 18446744073709551616 - Y - k) % 18446744073709551616) = sbD X Y k := by
    unfold sbD; simp only [Int.ofNat_eq_natCast]; omega
  have e2 : Int.ofNat (if X < Y + k then 1 else 0) = sbB X Y k := by
    unfold sbB; split <;> split <;> first | rfl | omega
  simp only [Extern.MathBitsCarry.pair, Extern.MathBitsCarry.m64, Int.toNat_natCast, Nat.reducePow, e1, e2]
theorem J4u (x y b : Int) (hx : K4 x) (hy : K4 y) (hb0 : 0 ≤ b) (hb : b ≤ 1) (w : World) : (callFunc 118 #[.int .u64 x, .int .u64 y, .int .u64 b]).run Tryd.prog w = .ok (.value (.tuple #[.int .u64 (sbD x y b), .int .u64 (sbB x y b)])) w := by
  rw [run_callFunc_extern Tryd.func118 (by kernel_rfl) (by kernel_rfl) (by kernel_rfl) (e := Q1a) (by kernel_rfl), Z64 x y b hx hy hb0 hb]
  rfl

def adS (x y c : Int) : Int := (x + y + c) % 18446744073709551616
def adC (x y c : Int) : Int := (x + y + c) / 18446744073709551616
theorem Q0v (x y c : Int) (hx : K4 x) (hy : K4 y) (h0 : 0 ≤ c) (h1 : c ≤ 1) : 0 ≤ adC x y c ∧ adC x y c ≤ 1 := by unfold K4 adC at *; omega
theorem Q4d (x y c : Int) : adS x y c + 18446744073709551616 * adC x y c = x + y + c ∧ K4 (adS x y c) := by
  unfold K4 adS adC at *; omega
theorem J23 (x y c : Int) (hx : K4 x) (hy : K4 y) (hb0 : 0 ≤ c) (hb : c ≤ 1) (w : World) : (callFunc 91 #[.int .u64 x, .int .u64 y, .int .u64 c]).run Tryd.prog w = .ok (.value (.tuple #[.int .u64 (adS x y c), .int .u64 (adC x y c)])) w := by
  rw [run_callFunc_extern Tryd.func91 (by kernel_rfl) (by kernel_rfl) (by kernel_rfl) (e := add64Entry) (by kernel_rfl), run_add64 x y c hx.1 hy.1 hb0 hb]
  rfl

def J9f (A B : Nat) : Nat := (A + 115792089237316195423570985008687907853269984665640564039457584007913129639936 - B) % 115792089237316195423570985008687907853269984665640564039457584007913129639936
def brw (A B : Nat) : Int := if A < B then 1 else 0
theorem Q6l (a0 a1 a2 a3 b0 b1 b2 b3 : Int) (ha : U4 a0 a1 a2 a3) (hb : U4 b0 b1 b2 b3) :
    let u0 := sbB a0 b0 0; let u1 := sbB a1 b1 u0; let u2 := sbB a2 b2 u1; let u3 := sbB a3 b3 u2
    A4 (sbD a0 b0 0) (sbD a1 b1 u0) (sbD a2 b2 u1) (sbD a3 b3 u2) = L4 (J9f (J1g a0 a1 a2 a3) (J1g b0 b1 b2 b3)) ∧ u3 = brw (J1g a0 a1 a2 a3) (J1g b0 b1 b2 b3) := by
  intro u0 u1 u2 u3
  have v0 := J6k a0 b0 0
  have v1 := J6k a1 b1 u0
  have v2 := J6k a2 b2 u1
  have v3 := J6k a3 b3 u2
  have s0 := Q4c a0 b0 0 ha.1 hb.1 (by omega) (by omega)
  have s1 := Q4c a1 b1 u0 ha.2.1 hb.2.1 v0.1 v0.2
  have s2 := Q4c a2 b2 u1 ha.2.2.1 hb.2.2.1 v1.1 v1.2
  have s3 := Q4c a3 b3 u2 ha.2.2.2 hb.2.2.2 v2.1 v2.2
  have hd : U4 (sbD a0 b0 0) (sbD a1 b1 u0) (sbD a2 b2 u1) (sbD a3 b3 u2) := ⟨s0.2, s1.2, s2.2, s3.2⟩
  rw [Z40 _ _ _ _ hd]
  have iA := J67 _ _ _ _ ha
  have iB := J67 _ _ _ _ hb
  have iD := J67 _ _ _ _ hd
  have lA := Q0k _ _ _ _ ha
  have lB := Q0k _ _ _ _ hb
  have lD := Q0k _ _ _ _ hd
  have e0 := s0.1
  have e1 := s1.1
  have e2 := s2.1
  have e3 := s3.1
  have key : (J1g (sbD a0 b0 0) (sbD a1 b1 u0) (sbD a2 b2 u1) (sbD a3 b3 u2) : Int) = (J1g a0 a1 a2 a3 : Int) - (J1g b0 b1 b2 b3 : Int) + 115792089237316195423570985008687907853269984665640564039457584007913129639936 * u3 := by
    rw [iA, iB, iD]
    change _ = _ + _ * u3 at e3
    change _ = _ + _ * u2 at e2
    change _ = _ + _ * u1 at e1
    change _ = _ + _ * u0 at e0
    clear iA iB iD lA lB lD s0 s1 s2 s3 v0 v1 v2 v3 hd
    generalize sbD a0 b0 0 = d0 at *
    generalize sbD a1 b1 u0 = d1 at *
    generalize sbD a2 b2 u1 = d2 at *
    generalize sbD a3 b3 u2 = d3 at *
    clear_value u3 u2 u1 u0
    clear ha hb
    omega
  change 0 ≤ u3 ∧ u3 ≤ 1 at v3
  clear iA iB iD e0 e1 e2 e3 s0 s1 s2 s3 v0 v1 v2 hd
  generalize J1g (sbD a0 b0 0) (sbD a1 b1 u0) (sbD a2 b2 u1) (sbD a3 b3 u2) = D at *
  generalize J1g a0 a1 a2 a3 = A at *
  generalize J1g b0 b1 b2 b3 = B at *
  clear_value u3
  have hu : u3 = 0 ∨ u3 = 1 := by omega
  rcases hu with rfl | rfl
  · exact ⟨Z41 (by unfold J9f; omega), by unfold brw; rw [if_neg (by omega)]⟩
  · exact ⟨Z41 (by unfold J9f; omega), by unfold brw; rw [if_pos (by omega)]⟩
theorem Q6m (a0 a1 a2 a3 b0 b1 b2 b3 c : Int) (ha : U4 a0 a1 a2 a3) (hb : U4 b0 b1 b2 b3) (hc0 : 0 ≤ c) (hc1 : c ≤ 1) :
    let u0 := adC a0 b0 c; let u1 := adC a1 b1 u0; let u2 := adC a2 b2 u1; let u3 := adC a3 b3 u2
    A4 (adS a0 b0 c) (adS a1 b1 u0) (adS a2 b2 u1) (adS a3 b3 u2) = L4 ((J1g a0 a1 a2 a3 + J1g b0 b1 b2 b3 + c.toNat) % 115792089237316195423570985008687907853269984665640564039457584007913129639936) ∧ u3 = ((J1g a0 a1 a2 a3 + J1g b0 b1 b2 b3 + c.toNat) / 115792089237316195423570985008687907853269984665640564039457584007913129639936 : Nat) := by
  intro u0 u1 u2 u3
  have v0 := Q0v a0 b0 c ha.1 hb.1 hc0 hc1
  have v1 := Q0v a1 b1 u0 ha.2.1 hb.2.1 v0.1 v0.2
  have v2 := Q0v a2 b2 u1 ha.2.2.1 hb.2.2.1 v1.1 v1.2
  have v3 := Q0v a3 b3 u2 ha.2.2.2 hb.2.2.2 v2.1 v2.2
  have s0 := Q4d a0 b0 c
  have s1 := Q4d a1 b1 u0
  have s2 := Q4d a2 b2 u1
  have s3 := Q4d a3 b3 u2
  have hd : U4 (adS a0 b0 c) (adS a1 b1 u0) (adS a2 b2 u1) (adS a3 b3 u2) := ⟨s0.2, s1.2, s2.2, s3.2⟩
  rw [Z40 _ _ _ _ hd]
  have iA := J67 _ _ _ _ ha
  have iB := J67 _ _ _ _ hb
  have iD := J67 _ _ _ _ hd
  have lA := Q0k _ _ _ _ ha
  have lB := Q0k _ _ _ _ hb
  have lD := Q0k _ _ _ _ hd
  have e0 := s0.1
  have e1 := s1.1
  have e2 := s2.1
  have e3 := s3.1
  have key : (J1g (adS a0 b0 c) (adS a1 b1 u0) (adS a2 b2 u1) (adS a3 b3 u2) : Int) + 115792089237316195423570985008687907853269984665640564039457584007913129639936 * u3 = (J1g a0 a1 a2 a3 : Int) + (J1g b0 b1 b2 b3 : Int) + c := by
    rw [iA, iB, iD]
    change _ + _ * u3 = _ at e3
    change _ + _ * u2 = _ at e2
    change _ + _ * u1 = _ at e1
    change _ + _ * u0 = _ at e0
    clear iA iB iD lA lB lD s0 s1 s2 s3 v0 v1 v2 v3 hd
    generalize adS a0 b0 c = d0 at *
    generalize adS a1 b1 u0 = d1 at *
    generalize adS a2 b2 u1 = d2 at *
    generalize adS a3 b3 u2 = d3 at *
    clear_value u3 u2 u1 u0
    clear ha hb
    omega
  change 0 ≤ u3 ∧ u3 ≤ 1 at v3
  clear iA iB iD e0 e1 e2 e3 s0 s1 s2 s3 v0 v1 v2 hd
  generalize J1g (adS a0 b0 c) (adS a1 b1 u0) (adS a2 b2 u1) (adS a3 b3 u2) = D at *
  generalize J1g a0 a1 a2 a3 = A at *
  generalize J1g b0 b1 b2 b3 = B at *
  clear_value u3
  have hu : u3 = 0 ∨ u3 = 1 := by omega
  rcases hu with rfl | rfl
  · exact ⟨Z41 (by omega), by omega⟩
  · exact ⟨Z41 (by omega), by omega⟩
theorem Y8v {a0 a1 a2 a3 : Int} {V : Nat} (h : A4 a0 a1 a2 a3 = L4 V) : a0 = lim V 0 ∧ a1 = lim V 1 ∧ a2 = lim V 2 ∧ a3 = lim V 3 := by
  simpa [A4, L4] using h
end Go.Proofs.YtefpoollmbmkfaaDoor

namespace Go.Proofs.YtefpoollmbmkfaaDoor
open Go.RowKit

namespace M64
theorem maskN (a : Nat) (ha : a < 18446744073709551616) : bits .and .u64 (a : Int) 4294967295 = ((a % 4294967296 : Nat) : Int) := by
  have h := bits_and_u64_nat a 4294967295 ha (by omega)
  have e : a &&& 4294967295 = a % 4294967296 := Nat.and_two_pow_sub_one_eq_mod a 32
  rw [e] at h
  exact h
theorem divN (a : Nat) : (a : Int) / 4294967296 = ((a / 4294967296 : Nat) : Int) := by omega
theorem mulN (a b : Nat) : (a : Int) * (b : Int) = ((a * b : Nat) : Int) := (Int.natCast_mul a b).symm
theorem addN (a b : Nat) : (a : Int) + (b : Int) = ((a + b : Nat) : Int) := (Int.natCast_add a b).symm
theorem wrapN (a : Nat) (ha : a < 18446744073709551616) : IntKind.u64.wrap (a : Int) = (a : Int) := by rw [IntKind.wrap_u64]; omega
theorem wrapM (a : Nat) : IntKind.u64.wrap (a : Int) = ((a % 18446744073709551616 : Nat) : Int) := by rw [IntKind.wrap_u64]; omega
end M64

set_option maxHeartbeats 1000000 in
theorem Y4b (x y : Nat) (hx : x < 18446744073709551616) (hy : y < 18446744073709551616) (w : World) :
    Calls Tryd.prog 94 #[.int .u64 x, .int .u64 y] w fun e w' => e = .returned (.tuple #[.int .u64 ((x * y / 18446744073709551616 : Nat) : Int), .int .u64 ((x * y % 18446744073709551616 : Nat) : Int)]) ∧ w = w' := by
  obtain ⟨bd, bt, bw, hhi⟩ := Lib.mul64_hi x y hx hy
  have ba := Lib.half_mul_le (a := x / 4294967296) (b := y / 4294967296) (by omega) (by omega)
  have bb := Lib.half_mul_le (a := x / 4294967296) (b := y % 4294967296) (by omega) (by omega)
  have bc := Lib.half_mul_le (a := x % 4294967296) (b := y / 4294967296) (by omega) (by omega)
  have ba' : x / 4294967296 * (y / 4294967296) < 18446744073709551616 := by omega
  have bb' : x / 4294967296 * (y % 4294967296) < 18446744073709551616 := by omega
  have bc' : x % 4294967296 * (y / 4294967296) < 18446744073709551616 := by omega
  have bh1 : x / 4294967296 * (y / 4294967296) + (x / 4294967296 * (y % 4294967296) + x % 4294967296 * (y % 4294967296) / 4294967296) / 4294967296 < 18446744073709551616 := by omega
  have bh : x / 4294967296 * (y / 4294967296) + (x / 4294967296 * (y % 4294967296) + x % 4294967296 * (y % 4294967296) / 4294967296) / 4294967296 + ((x / 4294967296 * (y % 4294967296) + x % 4294967296 * (y % 4294967296) / 4294967296) % 4294967296 + x % 4294967296 * (y / 4294967296)) / 4294967296 < 18446744073709551616 := by omega
  go_enter Tryd.func94, Tryd.ntmps94
  go_wp2
  simp only [M64.maskN x hx, M64.maskN y hy, M64.divN, M64.mulN, M64.addN, M64.wrapN _ bd, M64.wrapN _ bb', M64.wrapN _ bt, M64.maskN _ bt, M64.wrapN _ bc', M64.wrapN _ bw, M64.wrapN _ ba', M64.wrapN _ bh1, M64.wrapN _ bh, M64.wrapM (x * y)]
  rw [hhi]
  go_ret2
  exact ⟨rfl, rfl⟩

def Z65 (x y : Int) : Int := x * y / 18446744073709551616
def J7o (x y : Int) : Int := x * y % 18446744073709551616
theorem Q83 (x y : Int) (hx : K4 x) (hy : K4 y) (w : World) :
    Calls Tryd.prog 94 #[.int .u64 x, .int .u64 y] w fun e w' => e = .returned (.tuple #[.int .u64 (Z65 x y), .int .u64 (J7o x y)]) ∧ w = w' := by
  obtain ⟨x0, x1⟩ := hx
  obtain ⟨y0, y1⟩ := hy
  obtain ⟨X, rfl⟩ := Int.eq_ofNat_of_zero_le x0
  obtain ⟨Y, rfl⟩ := Int.eq_ofNat_of_zero_le y0
  have h := Y4b X Y (by omega) (by omega) w
  have e1 : Z65 X Y = ((X * Y / 18446744073709551616 : Nat) : Int) := by unfold Z65; rw [M64.mulN]; omega
  have e2 : J7o X Y = ((X * Y % 18446744073709551616 : Nat) : Int) := by unfold J7o; rw [M64.mulN]; omega
  rw [e1, e2]; exact h

theorem Q4q (x y f c : Int) (hx : K4 x) (hy : K4 y) (hf : K4 f) (hc : K4 c) :
    K4 (J7o x y) ∧ K4 (adS (J7o x y) f 0) ∧
    K4 (IntKind.u64.wrap (IntKind.u64.wrap (Z65 x y + adC (J7o x y) f 0) + adC (adS (J7o x y) f 0) c 0)) ∧ K4 (adS (adS (J7o x y) f 0) c 0) ∧
    adS (adS (J7o x y) f 0) c 0 + 18446744073709551616 * IntKind.u64.wrap (IntKind.u64.wrap (Z65 x y + adC (J7o x y) f 0) + adC (adS (J7o x y) f 0) c 0) = x * y + f + c := by
  have hp : x * y ≤ 340282366920938463426481119284349108225 := by
    obtain ⟨x0, x1⟩ := hx
    obtain ⟨y0, y1⟩ := hy
    exact Int.le_trans (Int.mul_le_mul (show x ≤ 18446744073709551615 by omega) (show y ≤ 18446744073709551615 by omega) y0 (by omega)) (by decide)
  have hp0 : 0 ≤ x * y := Int.mul_nonneg hx.1 hy.1
  unfold Z65 J7o adS adC K4 at *
  rw [IntKind.wrap_u64, IntKind.wrap_u64]
  generalize x * y = p at *
  omega
end Go.Proofs.YtefpoollmbmkfaaDoor

namespace Go.Proofs.YtefpoollmbmkfaaDoor
open Go.RowKit
def J2u (ws : Nat → Int) : Nat → Nat
  | 0 => 0
  | n + 1 => J2u ws n + (ws n).toNat * 2 ^ (64 * n)
theorem Q1g (ws : Nat → Int) : ∀ n, (∀ j, j < n → K4 (ws j)) → J2u ws n < 2 ^ (64 * n)
  | 0, _ => by simp [J2u]
  | n + 1, h => by
    have ih := Q1g ws n (fun j hj => h j (by omega))
    have h1 := h n (by omega)
    have e : (2 : Nat) ^ (64 * (n + 1)) = 18446744073709551616 * 2 ^ (64 * n) := by rw [Nat.mul_add, Nat.pow_add, Nat.mul_comm]
    unfold K4 at h1
    rw [e]
    show J2u ws n + (ws n).toNat * 2 ^ (64 * n) < _
    have : (ws n).toNat * 2 ^ (64 * n) ≤ 18446744073709551615 * 2 ^ (64 * n) := Nat.mul_le_mul_right _ (by omega)
    omega
theorem Q5s (f g : Nat → Int) : ∀ n, (∀ j, j < n → f j = g j) → J2u f n = J2u g n
  | 0, _ => rfl
  | n + 1, h => by
    show J2u f n + _ = J2u g n + _
    rw [Q5s f g n (fun j hj => h j (by omega)), h n (by omega)]
theorem J81 (f : Nat → Int) (j : Nat) (v : Int) : ∀ n, j < n → J2u (upd f j v) n + (f j).toNat * 2 ^ (64 * j) = J2u f n + v.toNat * 2 ^ (64 * j)
  | 0, h => by omega
  | n + 1, h => by
    show J2u (upd f j v) n + (upd f j v n).toNat * 2 ^ (64 * n) + _ = J2u f n + (f n).toNat * 2 ^ (64 * n) + _
    by_cases hj : j = n
    · subst hj
      rw [Q5s (upd f j v) f j (fun i hi => by unfold upd; rw [if_neg (by omega)])]
      simp only [upd, if_true]
      omega
    · have ih := J81 f j v n (by omega)
      have e : upd f j v n = f n := by unfold upd; rw [if_neg (fun h => hj h.symm)]
      rw [e]; omega
theorem J31 (f : Nat → Int) (j : Nat) (v : Int) : upd f j v j = v := by simp [upd]
theorem J19 (f : Nat → Int) (j i : Nat) (v : Int) (h : i ≠ j) : upd f j v i = f i := by simp [upd, h]
theorem Q0d : ∀ n, J2u (fun _ => 0) n = 0
  | 0 => rfl
  | n + 1 => by show J2u (fun _ => 0) n + (0 : Int).toNat * _ = 0; rw [Q0d n]; simp
theorem J9u (V : Nat) : ∀ n, J2u (lim V) n = V % 2 ^ (64 * n)
  | 0 => by simp [J2u, Nat.mod_one]
  | n + 1 => by
    show J2u (lim V) n + (lim V n).toNat * 2 ^ (64 * n) = _
    rw [J9u V n, Nat.mul_add, Nat.pow_add, Nat.mod_mul]
    unfold lim
    rw [Int.toNat_natCast, Nat.mul_comm (2 ^ (64 * n))]
theorem Q6z (V : Nat) (h : V < Z0) : J2u (lim V) 4 = V := by
  rw [J9u, Nat.mod_eq_of_lt]; exact h
theorem J80 (V i : Nat) : V % 2 ^ (64 * (i + 1)) = V % 2 ^ (64 * i) + (lim V i).toNat * 2 ^ (64 * i) := by
  rw [← J9u, ← J9u]; rfl
theorem J7z (f : Nat → Int) : ∀ n j, j < n → (∀ i, i < n → K4 (f i)) → lim (J2u f n) j = f j
  | 0, j, h, _ => by omega
  | n + 1, j, h, hf => by
    have hl := Q1g f n (fun i hi => hf i (by omega))
    have hn := hf n (by omega)
    unfold K4 at hn
    have hq : J2u f (n + 1) = J2u f n + (f n).toNat * 2 ^ (64 * n) := rfl
    by_cases hj : j = n
    · subst hj
      unfold lim
      rw [hq, Nat.add_mul_div_right _ _ (Nat.two_pow_pos _), Nat.div_eq_of_lt hl, Nat.zero_add]
      omega
    · have ih := J7z f n j (by omega) (fun i hi => hf i (by omega))
      rw [← ih]
      unfold lim
      obtain ⟨d, hd⟩ : ∃ d, 64 * n = 64 * j + (64 + d) := ⟨64 * n - 64 * j - 64, by omega⟩
      rw [hq, hd, Nat.pow_add 2 (64 * j), Nat.mul_left_comm, Nat.add_mul_div_left _ _ (Nat.two_pow_pos _), Nat.pow_add 2 64 d, Nat.mul_left_comm]
      have e : (2 : Nat) ^ 64 = 18446744073709551616 := by decide
      rw [e, Nat.add_mul_mod_self_left]
end Go.Proofs.YtefpoollmbmkfaaDoor

namespace Go.Proofs.YtefpoollmbmkfaaDoor
open Go.RowKit

def J4m (x : Int) : Prop := 0 ≤ x ∧ x < 256
def J1f (bs : Nat → Int) : Nat → Nat
  | 0 => 0
  | n + 1 => J1f bs n + (bs n).toNat * 2 ^ (8 * n)
theorem J5v (bs : Nat → Int) (h : ∀ j, J4m (bs j)) : ∀ n, J1f bs n < 2 ^ (8 * n)
  | 0 => by simp [J1f]
  | n + 1 => by
    have ih := J5v bs h n
    have h1 := h n
    have e : (2 : Nat) ^ (8 * (n + 1)) = 256 * 2 ^ (8 * n) := by rw [Nat.mul_add, Nat.pow_add, Nat.mul_comm]
    unfold J4m at h1
    rw [e]
    show J1f bs n + (bs n).toNat * 2 ^ (8 * n) < _
    have : (bs n).toNat * 2 ^ (8 * n) ≤ 255 * 2 ^ (8 * n) := Nat.mul_le_mul_right _ (by omega)
    omega
theorem Z9c (p : Nat) (h : p < 18446744073709551616) : IntKind.wrap .u64 (p : Int) = (p : Int) := by rw [IntKind.wrap_u64]; omega
theorem Z3b (bs : Nat → Int) (h : ∀ j, J4m (bs j)) (q r : Nat) (hr : r < 8) :
    bits .or .u64 (lim (J1f bs (8 * q + r)) q) (IntKind.wrap .u64 (bs (8 * q + r) * 2 ^ (8 * r))) = lim (J1f bs (8 * q + r + 1)) q := by
  have hl := J5v bs h (8 * q + r)
  obtain ⟨b0, b1⟩ := h (8 * q + r)
  show _ = lim (J1f bs (8 * q + r) + (bs (8 * q + r)).toNat * 2 ^ (8 * (8 * q + r))) q
  obtain ⟨x, hx⟩ := Int.eq_ofNat_of_zero_le b0
  rw [hx] at b1 ⊢
  rw [Int.toNat_natCast]
  generalize J1f bs (8 * q + r) = V at *
  rw [show 8 * (8 * q + r) = 64 * q + 8 * r by omega, Nat.pow_add] at *
  have hV : V / 2 ^ (64 * q) < 2 ^ (8 * r) := Nat.div_lt_of_lt_mul hl
  have hp : (2 : Nat) ^ (8 * r) ≤ 2 ^ 56 := Nat.pow_le_pow_right (by omega) (by omega)
  have hxp : x * 2 ^ (8 * r) ≤ 255 * 2 ^ 56 := Nat.mul_le_mul (by omega) hp
  unfold lim
  have e1 : (V + x * (2 ^ (64 * q) * 2 ^ (8 * r))) / 2 ^ (64 * q) = V / 2 ^ (64 * q) + x * 2 ^ (8 * r) := by
    rw [Nat.mul_left_comm, Nat.add_mul_div_left _ _ (Nat.two_pow_pos _)]
  rw [e1]
  generalize V / 2 ^ (64 * q) = v at *
  have e0 : (x : Int) * 2 ^ (8 * r) = ((x * 2 ^ (8 * r) : Nat) : Int) := by rw [Int.natCast_mul, Int.natCast_pow]; rfl
  have hxq : x * 2 ^ (8 * r) < 18446744073709551616 := Nat.lt_of_le_of_lt hxp (by decide)
  have e2 : IntKind.wrap .u64 ((x : Int) * 2 ^ (8 * r)) = ((x * 2 ^ (8 * r) : Nat) : Int) := by
    rw [e0]; exact Z9c _ hxq
  rw [e2]
  have p56 : (2 : Nat) ^ 56 = 72057594037927936 := by decide
  rw [bits_or_u64_nat _ _ (by omega) (by omega)]
  have e3 : v % 18446744073709551616 ||| x * 2 ^ (8 * r) = v + x * 2 ^ (8 * r) := by
    rw [Nat.mod_eq_of_lt (by omega), Nat.or_comm, Nat.mul_comm x, ← Nat.two_pow_add_eq_or_of_lt hV, Nat.add_comm]
  rw [e3]
  congr 1
  rw [Nat.mod_eq_of_lt (by omega)]
theorem J9j (bs : Nat → Int) (h : ∀ j, J4m (bs j)) (k j : Nat) (hj : j ≠ k / 8) : lim (J1f bs (k + 1)) j = lim (J1f bs k) j := by
  have hl := J5v bs h k
  by_cases hlt : j < k / 8
  · show lim (J1f bs k + (bs k).toNat * 2 ^ (8 * k)) j = _
    generalize J1f bs k = V at *
    generalize (bs k).toNat = x
    unfold lim
    obtain ⟨d, hd⟩ : ∃ d, 8 * k = 64 * j + (64 + d) := ⟨8 * k - 64 * j - 64, by omega⟩
    rw [hd, Nat.pow_add 2 (64 * j), Nat.mul_left_comm, Nat.add_mul_div_left _ _ (Nat.two_pow_pos _), Nat.pow_add 2 64 d, Nat.mul_left_comm]
    have e : (2 : Nat) ^ 64 = 18446744073709551616 := by decide
    rw [e, Nat.add_mul_mod_self_left]
  · have h1 := J5v bs h (k + 1)
    have h2 : (2 : Nat) ^ (8 * (k + 1)) ≤ 2 ^ (64 * j) := Nat.pow_le_pow_right (by omega) (by omega)
    have h3 : J1f bs (k + 1) < 2 ^ (64 * j) := Nat.lt_of_lt_of_le h1 h2
    have h4 : J1f bs k < 2 ^ (64 * j) := Nat.lt_of_le_of_lt (Nat.le_add_right _ _) h3
    show ((J1f bs (k + 1) / _ % _ : Nat) : Int) = ((J1f bs k / _ % _ : Nat) : Int)
    rw [Nat.div_eq_of_lt h3, Nat.div_eq_of_lt h4]
end Go.Proofs.YtefpoollmbmkfaaDoor

namespace Go.Proofs.YtefpoollmbmkfaaDoor
open Go.RowKit

def Q2 (n i : Nat) : Int := ((n / 2 ^ (16 * i) % 65536 : Nat) : Int)
theorem J0q (n i : Nat) : 0 ≤ Q2 n i ∧ Q2 n i ≤ 65535 := by unfold Q2; omega
def A16 (n : Nat) : Value := .agg (J1 .i64 16 (Q2 n))
theorem J4q (i : Nat) : (2 : Nat) ^ (16 * (i + 1)) = 2 ^ (16 * i) * 65536 := by rw [Nat.mul_add, Nat.pow_add]
theorem J4n (X i : Nat) : X % 2 ^ (16 * (i + 1)) = X % 2 ^ (16 * i) + X / 2 ^ (16 * i) % 65536 * 2 ^ (16 * i) := by
  rw [J4q, Nat.mod_mul, Nat.mul_comm (2 ^ (16 * i))]
def J4y (X Y i : Nat) : Nat := (X % 2 ^ (16 * i) + Y % 2 ^ (16 * i)) / 2 ^ (16 * i)
theorem Z1p (X Y : Nat) : J4y X Y 0 = 0 := by simp [J4y, Nat.mod_one]
theorem Q5t (X Y i : Nat) : J4y X Y i ≤ 1 := by
  unfold J4y
  have hp := Nat.two_pow_pos (16 * i)
  have h1 := Nat.mod_lt X hp
  have h2 := Nat.mod_lt Y hp
  have : (X % 2 ^ (16 * i) + Y % 2 ^ (16 * i)) / 2 ^ (16 * i) < 2 := by
    rw [Nat.div_lt_iff_lt_mul hp]; omega
  omega
theorem Q5u (X Y i : Nat) : Q2 X i + Q2 Y i + (J4y X Y i : Int) = Q2 (X + Y) i + 65536 * (J4y X Y (i + 1) : Int) := by
  have hp := Nat.two_pow_pos (16 * i)
  have e1 : J4y X Y (i + 1) = (X / 2 ^ (16 * i) % 65536 + Y / 2 ^ (16 * i) % 65536 + J4y X Y i) / 65536 := by
    unfold J4y
    rw [J4n X i, J4n Y i, J4q, ← Nat.div_div_eq_div_mul]
    congr 1
    rw [show X % 2 ^ (16 * i) + X / 2 ^ (16 * i) % 65536 * 2 ^ (16 * i) + (Y % 2 ^ (16 * i) + Y / 2 ^ (16 * i) % 65536 * 2 ^ (16 * i)) = X % 2 ^ (16 * i) + Y % 2 ^ (16 * i) + (X / 2 ^ (16 * i) % 65536 + Y / 2 ^ (16 * i) % 65536) * 2 ^ (16 * i) by rw [Nat.add_mul]; omega]
    rw [Nat.add_mul_div_right _ _ hp]; omega
  have e2 : (X + Y) / 2 ^ (16 * i) = X / 2 ^ (16 * i) + Y / 2 ^ (16 * i) + J4y X Y i := by
    unfold J4y
    have hx := Nat.div_add_mod X (2 ^ (16 * i))
    have hy := Nat.div_add_mod Y (2 ^ (16 * i))
    rw [show X + Y = (X % 2 ^ (16 * i) + Y % 2 ^ (16 * i)) + 2 ^ (16 * i) * (X / 2 ^ (16 * i) + Y / 2 ^ (16 * i)) by rw [Nat.mul_add]; omega]
    rw [Nat.add_mul_div_left _ _ hp]; omega
  unfold Q2
  rw [e2, e1]
  have := Q5t X Y i
  generalize J4y X Y i = c at *
  generalize X / 2 ^ (16 * i) = x at *
  generalize Y / 2 ^ (16 * i) = y at *
  omega
def J27 (X Y i : Nat) : Nat := if X % 2 ^ (16 * i) < Y % 2 ^ (16 * i) then 1 else 0
theorem J8o (X Y : Nat) : J27 X Y 0 = 0 := by simp [J27, Nat.mod_one]
theorem J70 (X Y i : Nat) : J27 X Y i ≤ 1 := by unfold J27; split <;> omega
theorem Q4v (X Y i : Nat) (h : Y ≤ X) : Q2 X i - Q2 Y i - (J27 X Y i : Int) = Q2 (X - Y) i - 65536 * (J27 X Y (i + 1) : Int) := by
  obtain ⟨Z, rfl⟩ : ∃ Z, X = Y + Z := ⟨X - Y, by omega⟩
  rw [Nat.add_sub_cancel_left]
  have h1 := Q5u Y Z i
  have key : ∀ k, J27 (Y + Z) Y k = J4y Y Z k := by
    intro k
    unfold J27 J4y
    have hp := Nat.two_pow_pos (16 * k)
    have hy := Nat.mod_lt Y hp
    have hz := Nat.mod_lt Z hp
    rw [Nat.add_mod]
    generalize Y % 2 ^ (16 * k) = y at *
    generalize Z % 2 ^ (16 * k) = z at *
    generalize 2 ^ (16 * k) = W at *
    by_cases hlt : y + z < W
    · rw [Nat.mod_eq_of_lt hlt, Nat.div_eq_of_lt hlt, if_neg (by omega)]
    · have e1 : (y + z) / W = 1 := by
        rw [Nat.div_eq_iff hp]; omega
      have e2 : (y + z) % W = y + z - W := by rw [Nat.mod_eq_sub_mod (by omega), Nat.mod_eq_of_lt (by omega)]
      rw [e1, e2, if_pos (by omega)]
  rw [key, key]
  omega
theorem Z3s {X Y : Nat} (hX : X < Z0) (hY : Y < Z0) (h : ∀ i, i < 16 → Q2 X i = Q2 Y i) : X = Y := by
  have key : ∀ n, n ≤ 16 → X % 2 ^ (16 * n) = Y % 2 ^ (16 * n) := by
    intro n
    induction n with
    | zero => intro _; simp [Nat.mod_one]
    | succ n ih =>
      intro hn
      have h1 := h n (by omega)
      unfold Q2 at h1
      rw [J4n, J4n, ih (by omega)]
      have h2 : X / 2 ^ (16 * n) % 65536 = Y / 2 ^ (16 * n) % 65536 := by omega
      rw [h2]
  have := key 16 (Nat.le_refl _)
  rw [Nat.mod_eq_of_lt (show X < 2 ^ (16 * 16) from hX), Nat.mod_eq_of_lt (show Y < 2 ^ (16 * 16) from hY)] at this
  exact this
theorem Q3p {X Y : Nat} (n : Nat) (hn : n < 16) (hX : X < Z0) (hY : Y < Z0) (h : ∀ i, n < i → i < 16 → Q2 X i = Q2 Y i) (hlt : Q2 X n < Q2 Y n) : X < Y := by
  have e : X / 2 ^ (16 * (n + 1)) = Y / 2 ^ (16 * (n + 1)) := by
    have key : ∀ m, m ≤ 15 - n → X / 2 ^ (16 * (16 - m)) = Y / 2 ^ (16 * (16 - m)) := by
      intro m
      induction m with
      | zero => intro _; rw [Nat.sub_zero, Nat.div_eq_of_lt (show X < 2 ^ (16 * 16) from hX), Nat.div_eq_of_lt (show Y < 2 ^ (16 * 16) from hY)]
      | succ m ih =>
        intro hm
        have ih' := ih (by omega)
        have h1 := h (16 - (m + 1)) (by omega) (by omega)
        unfold Q2 at h1
        obtain ⟨k, hk⟩ : ∃ k, 16 - (m + 1) = k := ⟨_, rfl⟩
        rw [hk] at h1 ⊢
        rw [show 16 - m = k + 1 by omega, J4q, ← Nat.div_div_eq_div_mul, ← Nat.div_div_eq_div_mul] at ih'
        generalize X / 2 ^ (16 * k) = x at *
        generalize Y / 2 ^ (16 * k) = y at *
        omega
    have := key (15 - n) (Nat.le_refl _)
    rw [show 16 - (15 - n) = n + 1 by omega] at this
    exact this
  rw [J4q, ← Nat.div_div_eq_div_mul, ← Nat.div_div_eq_div_mul] at e
  unfold Q2 at hlt
  have h2 : X / 2 ^ (16 * n) < Y / 2 ^ (16 * n) := by
    generalize X / 2 ^ (16 * n) = x at *
    generalize Y / 2 ^ (16 * n) = y at *
    omega
  exact Nat.lt_of_not_le fun hle => by
    have := Nat.div_le_div_right (c := 2 ^ (16 * n)) hle
    omega
end Go.Proofs.YtefpoollmbmkfaaDoor

namespace Go.Proofs.YtefpoollmbmkfaaDoor
open Go.RowKit

def J6n (k : Nat) (f g : Nat → Int) : Nat → Int := fun j => if j < k then f j else g j
theorem J6o (k : Nat) (f g : Nat → Int) : J6n k f g k = g k := by simp [J6n]
theorem J4a (kd : IntKind) (n k : Nat) (f g : Nat → Int) : (J1 kd n (J6n k f g)).setIfInBounds k (.int kd (f k)) = J1 kd n (J6n (k + 1) f g) := by
  rw [J04]
  apply J0d
  intro j _
  unfold upd J6n
  by_cases h1 : j = k
  · subst h1; rw [if_pos rfl, if_pos (by omega)]
  · rw [if_neg h1]
    by_cases h2 : j < k
    · rw [if_pos h2, if_pos (by omega)]
    · rw [if_neg h2, if_neg (by omega)]
theorem J52 (kd : IntKind) (n : Nat) (f g : Nat → Int) : J1 kd n (J6n n f g) = J1 kd n f := J0d _ _ _ _ (fun i hi => by unfold J6n; rw [if_pos hi])
theorem J3y (f g : Nat → Int) : J6n 0 f g = g := by funext j; simp [J6n]
theorem Q70 (x : Int) (h0 : 0 ≤ x) (h1 : x ≤ 9223372036854775807) : bits .and .i64 x 65535 = x % 65536 := by
  have h := bits_mask .i64 63 (by decide) (fun n a b => by rw [IntKind.wrap_i64]; omega) 16 (by omega) x h0 (by omega)
  have e1 : (2 : Int) ^ 16 - 1 = 65535 := by decide
  have e2 : (2 : Int) ^ 16 = 65536 := by decide
  rw [e1, e2] at h; exact h

def J0w (f : Nat → Int) : Nat → Nat
  | 0 => 0
  | n + 1 => J0w f n + (f n).toNat * 2 ^ (16 * n)
theorem Q14 (f g : Nat → Int) : ∀ n, (∀ j, j < n → f j = g j) → J0w f n = J0w g n
  | 0, _ => rfl
  | n + 1, h => by
    show J0w f n + _ = J0w g n + _
    rw [Q14 f g n (fun j hj => h j (by omega)), h n (by omega)]
theorem Q51 (f : Nat → Int) (j : Nat) (v : Int) : ∀ n, j < n → J0w (upd f j v) n + (f j).toNat * 2 ^ (16 * j) = J0w f n + v.toNat * 2 ^ (16 * j)
  | 0, h => by omega
  | n + 1, h => by
    show J0w (upd f j v) n + (upd f j v n).toNat * 2 ^ (16 * n) + _ = J0w f n + (f n).toNat * 2 ^ (16 * n) + _
    by_cases hj : j = n
    · subst hj
      rw [Q14 (upd f j v) f j (fun i hi => by unfold upd; rw [if_neg (by omega)])]
      simp only [upd, if_true]
      omega
    · have ih := Q51 f j v n (by omega)
      have e : upd f j v n = f n := by unfold upd; rw [if_neg (fun h => hj h.symm)]
      rw [e]; omega
theorem J9k (V : Nat) : ∀ n, J0w (Q2 V) n = V % 2 ^ (16 * n)
  | 0 => by simp [J0w, Nat.mod_one]
  | n + 1 => by
    show J0w (Q2 V) n + (Q2 V n).toNat * 2 ^ (16 * n) = _
    rw [J9k V n, J4n]
    unfold Q2
    rw [Int.toNat_natCast]
theorem Q6o : ∀ n, J0w (fun _ => 0) n = 0
  | 0 => rfl
  | n + 1 => by show J0w (fun _ => 0) n + (0 : Int).toNat * _ = 0; rw [Q6o n]; simp
theorem Q4x (f g : Nat → Int) (hf : ∀ j, 0 ≤ f j) (hg : ∀ j, 0 ≤ g j) : ∀ n, J0w (fun j => f j + g j) n = J0w f n + J0w g n
  | 0 => rfl
  | n + 1 => by
    show J0w _ n + (f n + g n).toNat * _ = J0w f n + (f n).toNat * _ + (J0w g n + (g n).toNat * _)
    rw [Q4x f g hf hg n, Int.toNat_add (hf n) (hg n), Nat.add_mul]; omega
theorem Q71 (f : Nat → Int) (m : Nat) : ∀ n, m ≤ n → ∃ r, J0w f n = J0w f m + 2 ^ (16 * m) * r
  | 0, h => ⟨0, by rw [Nat.le_zero.1 h]; rfl⟩
  | n + 1, h => by
    by_cases e : m = n + 1
    · subst e; exact ⟨0, by simp⟩
    · obtain ⟨r, hr⟩ := Q71 f m n (by omega)
      obtain ⟨d, hd⟩ : ∃ d, 16 * n = 16 * m + d := ⟨16 * n - 16 * m, by omega⟩
      refine ⟨r + (f n).toNat * 2 ^ d, ?_⟩
      show J0w f n + (f n).toNat * 2 ^ (16 * n) = _
      rw [hr, hd, Nat.pow_add, Nat.mul_add, Nat.mul_left_comm]; omega
def ovr (f : Nat → Int) (k : Nat) : Nat := J0w f k / 2 ^ (16 * k)
theorem Q9m (f : Nat → Int) : ovr f 0 = 0 := by simp [ovr, J0w]
theorem Q5v (f : Nat → Int) (k : Nat) : ovr f (k + 1) = ((f k).toNat + ovr f k) / 65536 := by
  unfold ovr
  show (J0w f k + (f k).toNat * 2 ^ (16 * k)) / _ = _
  rw [J4q, ← Nat.div_div_eq_div_mul, Nat.add_mul_div_right _ _ (Nat.two_pow_pos _), Nat.add_comm]
theorem Z9d (f : Nat → Int) (n k : Nat) (hk : k < n) : Q2 (J0w f n) k = (((f k).toNat + ovr f k) % 65536 : Nat) := by
  obtain ⟨r, hr⟩ := Q71 f (k + 1) n hk
  unfold Q2 ovr
  rw [hr]
  show (((J0w f k + (f k).toNat * 2 ^ (16 * k) + 2 ^ (16 * (k + 1)) * r) / 2 ^ (16 * k) % 65536 : Nat) : Int) = _
  rw [J4q, Nat.mul_assoc, Nat.add_mul_div_left _ _ (Nat.two_pow_pos _), Nat.add_mul_div_right _ _ (Nat.two_pow_pos _), Nat.add_mul_mod_self_left, Nat.add_comm]
theorem Q4u (f : Nat → Int) (M : Nat) (h : ∀ j, f j ≤ (M : Int)) : ∀ k, ovr f k ≤ M
  | 0 => by rw [Q9m]; omega
  | k + 1 => by
    have := Q4u f M h k
    have := h k
    rw [Q5v]; omega
def cr (V : Nat) : Nat := V % Z0 + 38 * (V / Z0)
def nxt (f : Nat → Int) : Nat → Int := upd (Q2 (J0w f 16)) 0 (Q2 (J0w f 16) 0 + 38 * (ovr f 16 : Int))
def Z19 (f : Nat → Int) : Nat → Nat → Int
  | 0 => f
  | t + 1 => nxt (Z19 f t)
def okF (f : Nat → Int) : Prop := ∀ j, 0 ≤ f j ∧ f j ≤ 1125899906842624
theorem Y8w (f : Nat → Int) (h : okF f) : okF (nxt f) := fun j => by
  have h0 := Q4u f 1125899906842624 (fun j => (h j).2) 15
  have h1 : ovr f 16 = ((f 15).toNat + ovr f 15) / 65536 := Q5v f 15
  have h2 := (h 15).2
  have h3 := J0q (J0w f 16)
  unfold nxt upd
  split
  · have := h3 0; omega
  · have := h3 j; omega
theorem Z3c (f : Nat → Int) (h : okF f) : ∀ t, okF (Z19 f t)
  | 0 => h
  | t + 1 => Y8w _ (Z3c f h t)
theorem Z07 (f : Nat → Int) : J0w (nxt f) 16 = cr (J0w f 16) := by
  have h := Q51 (Q2 (J0w f 16)) 0 (Q2 (J0w f 16) 0 + 38 * (ovr f 16 : Int)) 16 (by omega)
  have h3 := J0q (J0w f 16) 0
  rw [J9k, Int.toNat_add h3.1 (by omega), Nat.mul_zero, Nat.pow_zero, Nat.mul_one, Nat.mul_one] at h
  unfold cr
  have e : (38 * (ovr f 16 : Int)).toNat = 38 * ovr f 16 := by omega
  rw [e] at h
  unfold nxt
  unfold ovr at *
  rw [show (2 : Nat) ^ (16 * 16) = Z0 by decide] at *
  omega
theorem V2h (V : Nat) (h : V < Z0 * 4503599627370496) : cr V < Z0 + 38 * 4503599627370496 := by
  have h1 : V / Z0 < 4503599627370496 := Nat.div_lt_of_lt_mul h
  have h2 : V % Z0 < Z0 := Nat.mod_lt _ (by decide)
  unfold cr; omega
theorem Q9n (V : Nat) (h : V < Z0 * 4503599627370496) : cr (cr V) < Z0 := by
  have h1 := V2h V h
  generalize cr V = W at *
  unfold cr
  by_cases hW : W < Z0
  · rw [Nat.mod_eq_of_lt hW, Nat.div_eq_of_lt hW]; exact hW
  · have e1 : W % Z0 = W - Z0 := by rw [Nat.mod_eq_sub_mod (by omega), Nat.mod_eq_of_lt (by unfold Z0 at *; omega)]
    have e2 : W / Z0 = 1 := Nat.div_eq_of_lt_le (by omega) (by unfold Z0 at *; omega)
    rw [e1, e2]; unfold Z0 at *; omega
theorem Q87 (f : Nat → Int) (h : okF f) : ∀ n, J0w f n < 2 ^ (16 * n) * 4503599627370496
  | 0 => by simp [J0w]
  | n + 1 => by
    have ih := Q87 f h n
    have h1 := (h n)
    rw [J4q]
    show J0w f n + (f n).toNat * 2 ^ (16 * n) < _
    have : (f n).toNat * 2 ^ (16 * n) ≤ 1125899906842624 * 2 ^ (16 * n) := Nat.mul_le_mul_right _ (by omega)
    generalize 2 ^ (16 * n) = W at *
    omega
theorem V1q (f : Nat → Int) (h : okF f) : J1 .i64 16 (Z19 f 3) = J1 .i64 16 (Q2 (cr (cr (J0w f 16)))) := by
  have hV := Q87 f h 16
  rw [show (2 : Nat) ^ (16 * 16) = Z0 by decide] at hV
  have hW := Q9n _ hV
  have e : J0w (Z19 f 2) 16 = cr (cr (J0w f 16)) := by
    show J0w (nxt (nxt f)) 16 = _
    rw [Z07, Z07]
  show J1 .i64 16 (nxt (Z19 f 2)) = _
  unfold nxt
  have e0 : ovr (Z19 f 2) 16 = 0 := by
    unfold ovr; rw [e, show (2 : Nat) ^ (16 * 16) = Z0 by decide, Nat.div_eq_of_lt hW]
  rw [e0, e]
  apply J0d
  intro j _
  unfold upd
  split
  · rename_i hj; subst hj; simp
  · rfl
theorem Z5n (f : Nat → Int) (h : okF f) (k : Nat) (hk : k < 16) : bits .and .i64 (f k + (ovr f k : Int)) 65535 = Q2 (J0w f 16) k ∧ (f k + (ovr f k : Int)) / 65536 = (ovr f (k + 1) : Int) := by
  have h1 := h k
  have h2 := Q4u f 1125899906842624 (fun j => (h j).2) k
  rw [Q70 _ (by omega) (by omega), Z9d f 16 k hk, Q5v]
  omega
end Go.Proofs.YtefpoollmbmkfaaDoor
