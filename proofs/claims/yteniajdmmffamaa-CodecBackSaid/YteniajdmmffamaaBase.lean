/- Words and small laws that all texts of this seat use: what a call that changes nothing old hands back, numbers of 64 bits, and four of them as one number. No conditions. -/
import Derived.WalkKit
import Derived.Laws.DeepBits32
import Derived.Laws.Rows
namespace Go.Proofs.Yteniajdmmffamaa
set_option linter.unusedSimpArgs false
set_option linter.unusedVariables false
open Go.RowKit

/-- The call hands back v, and nothing that was there before has turned. -/
def Ret (v : Value) (w w' : World) (e : Ending) : Prop := e = .returned v ∧ Below w.heap.size w w'
theorem below_step {B : Nat} {a w w1 : World} (h : Below B a w) (h1 : Below w.heap.size w w1) (hB : B ≤ w.heap.size) : Below B a w1 := h.trans (h1.mono hB)
theorem below_set {B c : Nat} {a w : World} (h : Below B a w) (hc : B ≤ c) (j : Nat) (v : Value) : Below B a (w.setCell ⟨c, j, none⟩ v) := h.setCell hc v
theorem below_setRow {B g : Nat} {a w : World} (h : Below B a w) (hg : B ≤ g) (c' : Array Value) : Below B a (w.setRow g c') :=
  h.trans ⟨rfl, rfl, rfl, by simp, fun k hk => setRow_other w g k c' (by omega)⟩
theorem bcell {W w1 : World} (hb : Below W.heap.size W w1) : (∀ b o, b < W.heap.size → w1.cell? ⟨b, o, none⟩ = W.cell? ⟨b, o, none⟩) ∧ (∀ b o, b < W.heap.size → w1.frozen? ⟨b, o, none⟩ = W.frozen? ⟨b, o, none⟩) :=
  ⟨fun b o h => hb.cell (p := ⟨b, o, none⟩) h, fun b o h => hb.frozen (p := ⟨b, o, none⟩) h⟩

/-- Of the world nothing more is kept than F. -/
theorem wp_world {P : Program} {c : Code} {Q : Exit → Act → World → Prop} {a : Act} {w : World} (F : World → Prop) (h : F w) (k : ∀ W, F W → c.wp P Q a W) : c.wp P Q a w := k w h
theorem ex_world {K : Act → World → Prop} {Q : Exit → Act → World → Prop} {a : Act} {w : World} (F : World → Prop) (h : F w) (k : ∀ W, F W → Exit.then K Q .normal a W) : Exit.then K Q .normal a w := k w h
theorem wpl_world {P : Program} {ops : Array Oper} {l : List Oper} {Q : Exit → Act → World → Prop} {a : Act} {w : World} (F : World → Prop) (h : F w) (k : ∀ W, F W → wpList P ops Q l a W) : wpList P ops Q l a w := k w h
/-- Block b holds the cells cs, and may be written. -/
def Blk (w : World) (b : Nat) (cs : Array Value) (t : TypeId) : Prop := w.heap[b]? = some (.cells cs t (0, 0))
theorem blk_lt {w : World} {b : Nat} {cs : Array Value} {t : TypeId} (h : Blk w b cs t) : b < w.heap.size := lt_of_block h
theorem blk_cell {w : World} {b : Nat} {cs : Array Value} {t : TypeId} (h : Blk w b cs t) : ∀ j, w.cell? ⟨b, j, none⟩ = cs[j]? := fun j => by
  unfold Blk at h; simp [World.cell?, h]
theorem blk_free {w : World} {b : Nat} {cs : Array Value} {t : TypeId} (h : Blk w b cs t) : ∀ j, w.frozen? ⟨b, j, none⟩ = false := fun j => by
  unfold Blk at h; simp [World.frozen?, h]
theorem blk_below {B : Nat} {w w' : World} {b : Nat} {cs : Array Value} {t : TypeId} (h : Blk w b cs t) (hb : Below B w w') (hB : b < B) : Blk w' b cs t := by
  unfold Blk at *; rw [hb.block b hB]; exact h
theorem blk_step {w w' : World} {b : Nat} {cs : Array Value} {t : TypeId} (h : Blk w b cs t) (hb : Below w.heap.size w w') : Blk w' b cs t := blk_below h hb (blk_lt h)
theorem blk_alloc {w : World} {b : Nat} {cs : Array Value} {t : TypeId} (h : Blk w b cs t) (o : Obj) : Blk (w.alloc o) b cs t := by
  have := blk_lt h
  unfold Blk at *; rw [Below.heap_alloc _ _ _ this]; exact h
theorem blk_new {w : World} {n : Nat} (cs : Array Value) (t : TypeId) (hn : n = w.heap.size) : Blk (w.alloc (.cells cs t)) n cs t := by
  subst hn; unfold Blk; show (w.heap.push _)[w.heap.size]? = _; simp
theorem blk_drew {w : World} {b : Nat} {cs : Array Value} {t : TypeId} (h : Blk w b cs t) : Blk w.drew b cs t := h
theorem blk_set {w : World} {b : Nat} {cs : Array Value} {t : TypeId} (h : Blk w b cs t) (j : Nat) (v : Value) : Blk (w.setCell ⟨b, j, none⟩ v) b (cs.setIfInBounds j v) t := by
  have hlt := blk_lt h
  unfold Blk at *
  have h' : w.heap[b] = .cells cs t (0, 0) := by simpa [Array.getElem?_eq_getElem hlt] using h
  show (w.heap.modify b _)[b]? = _
  rw [Array.getElem?_eq_getElem (by simpa using hlt), Array.getElem_modify_self, h']
  rfl
theorem blk_size {w : World} {b : Nat} {cs : Array Value} {t : TypeId} (h : Blk w b cs t) {n : Nat} (hn : b = n) : n < w.heap.size := hn ▸ blk_lt h
theorem blk_set4 {w : World} {b : Nat} {x0 x1 x2 x3 : Value} {t : TypeId} (h : Blk w b #[x0, x1, x2, x3] t) (y0 y1 y2 y3 : Value) :
    Blk ((((w.setCell ⟨b, 0, none⟩ y0).setCell ⟨b, 1, none⟩ y1).setCell ⟨b, 2, none⟩ y2).setCell ⟨b, 3, none⟩ y3) b #[y0, y1, y2, y3] t :=
  blk_set (blk_set (blk_set (blk_set h 0 y0) 1 y1) 2 y2) 3 y3
theorem blk_other4 {w : World} {b c : Nat} {cs : Array Value} {t : TypeId} (h : Blk w b cs t) (hbc : b ≠ c) (y0 y1 y2 y3 : Value) :
    Blk ((((w.setCell ⟨c, 0, none⟩ y0).setCell ⟨c, 1, none⟩ y1).setCell ⟨c, 2, none⟩ y2).setCell ⟨c, 3, none⟩ y3) b cs t := by
  unfold Blk at *
  rw [Below.heap_setCell _ _ _ _ hbc, Below.heap_setCell _ _ _ _ hbc, Below.heap_setCell _ _ _ _ hbc, Below.heap_setCell _ _ _ _ hbc]; exact h
theorem blk_other {w : World} {b c : Nat} {cs : Array Value} {t : TypeId} (h : Blk w b cs t) (hbc : b ≠ c) (j : Nat) (v : Value) : Blk (w.setCell ⟨c, j, none⟩ v) b cs t := by
  unfold Blk at *; rw [Below.heap_setCell _ _ _ _ hbc]; exact h

def P256 : Nat := 115792089237316195423570985008687907853269984665640564039457584007913129639936
def u64ok (x : Int) : Prop := 0 ≤ x ∧ x < 18446744073709551616
def U4 (a0 a1 a2 a3 : Int) : Prop := u64ok a0 ∧ u64ok a1 ∧ u64ok a2 ∧ u64ok a3
@[go_sem] def A4 (a0 a1 a2 a3 : Int) : Value := .agg #[.int .u64 a0, .int .u64 a1, .int .u64 a2, .int .u64 a3]
/-- limb i of n, 64 bits each -/
def lim (n : Nat) (i : Nat) : Int := ((n / 2 ^ (64 * i) % 18446744073709551616 : Nat) : Int)
@[go_sem] def L4 (n : Nat) : Value := .agg #[.int .u64 (lim n 0), .int .u64 (lim n 1), .int .u64 (lim n 2), .int .u64 (lim n 3)]
def val4 (a0 a1 a2 a3 : Int) : Nat := a0.toNat + 18446744073709551616 * a1.toNat + 340282366920938463463374607431768211456 * a2.toNat + 6277101735386680763835789423207666416102355444464034512896 * a3.toNat
theorem lim_ok (n i : Nat) : u64ok (lim n i) := by unfold u64ok lim; omega
theorem lim_U4 (n : Nat) : U4 (lim n 0) (lim n 1) (lim n 2) (lim n 3) := ⟨lim_ok n 0, lim_ok n 1, lim_ok n 2, lim_ok n 3⟩
theorem lim_val4 (a0 a1 a2 a3 : Int) (h : U4 a0 a1 a2 a3) :
    lim (val4 a0 a1 a2 a3) 0 = a0 ∧ lim (val4 a0 a1 a2 a3) 1 = a1 ∧ lim (val4 a0 a1 a2 a3) 2 = a2 ∧ lim (val4 a0 a1 a2 a3) 3 = a3 := by
  unfold lim val4 U4 u64ok at *
  simp only [Nat.reduceMul, Nat.reducePow]
  omega
theorem val4_lim (n : Nat) (h : n < 115792089237316195423570985008687907853269984665640564039457584007913129639936) : val4 (lim n 0) (lim n 1) (lim n 2) (lim n 3) = n := by
  unfold lim val4
  simp only [Nat.reduceMul, Nat.reducePow] at *
  omega
theorem val4_lt (a0 a1 a2 a3 : Int) (h : U4 a0 a1 a2 a3) : val4 a0 a1 a2 a3 < 115792089237316195423570985008687907853269984665640564039457584007913129639936 := by
  unfold val4 U4 u64ok at *
  omega
theorem val4_int (a0 a1 a2 a3 : Int) (h : U4 a0 a1 a2 a3) : (val4 a0 a1 a2 a3 : Int) = a0 + 18446744073709551616 * a1 + 340282366920938463463374607431768211456 * a2 + 6277101735386680763835789423207666416102355444464034512896 * a3 := by
  obtain ⟨⟨x0, _⟩, ⟨x1, _⟩, ⟨x2, _⟩, ⟨x3, _⟩⟩ := h
  unfold val4
  simp only [Int.natCast_add, Int.natCast_mul, Int.toNat_of_nonneg x0, Int.toNat_of_nonneg x1, Int.toNat_of_nonneg x2, Int.toNat_of_nonneg x3]
  rfl
theorem A4_L4 (a0 a1 a2 a3 : Int) (h : U4 a0 a1 a2 a3) : A4 a0 a1 a2 a3 = L4 (val4 a0 a1 a2 a3) := by
  obtain ⟨h0, h1, h2, h3⟩ := lim_val4 a0 a1 a2 a3 h
  unfold L4
  rw [h0, h1, h2, h3]; rfl
theorem L4_eq {m n : Nat} (h : m = n) : L4 m = L4 n := by rw [h]

/-- twice x, and a bit -/
theorem shl1_or (x b : Int) (hx : u64ok x) (h0 : 0 ≤ b) (h1 : b ≤ 1) : bits .or .u64 (IntKind.wrap .u64 (x * 2)) b = x * 2 % 18446744073709551616 + b := by
  obtain ⟨x0, x1⟩ := hx
  obtain ⟨X, rfl⟩ := Int.eq_ofNat_of_zero_le x0
  obtain ⟨B, rfl⟩ := Int.eq_ofNat_of_zero_le h0
  have e : IntKind.wrap .u64 ((X : Int) * 2) = ((X * 2 % 18446744073709551616 : Nat) : Int) := by
    simp [IntKind.wrap, IntKind.signed, IntKind.bits]
  rw [e, bits_or_u64_nat _ _ (by omega) (by omega), or_bit _ _ (by omega) (by omega)]
  omega
end Go.Proofs.Yteniajdmmffamaa
