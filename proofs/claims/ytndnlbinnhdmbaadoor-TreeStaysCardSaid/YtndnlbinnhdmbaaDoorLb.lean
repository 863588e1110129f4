/- Bytes of a number as a list; arrays of bytes seen as slices; parts of a sum. No conditions. -/
import Derived.Test.YtndnlbinnhdmbaaDoorGc
set_option linter.unusedSimpArgs false
set_option linter.unusedVariables false
namespace Go.Proofs.YtndnlbinnhdmbaaDoor
set_option maxRecDepth 100000
open Go.RowKit
theorem bval_byt (A : Nat) : ∀ n, bval (byt A) n = A % 2 ^ (8 * n)
  | 0 => by rw [Nat.mul_zero, Nat.pow_zero, Nat.mod_one]; rfl
  | n + 1 => by
    show bval (byt A) n + (byt A n).toNat * 2 ^ (8 * n) = _
    rw [bval_byt A n, Nat.mul_add, Nat.pow_add, Nat.mod_mul, Nat.mul_comm (byt A n).toNat]
    rfl
theorem byt_inj {A B : Nat} (hA : A < 2 ^ 256) (hB : B < 2 ^ 256) (h : ∀ j, j < 32 → byt A j = byt B j) : A = B := by
  have key : ∀ n, n ≤ 32 → bval (byt A) n = bval (byt B) n := by
    intro n
    induction n with
    | zero => intro _; rfl
    | succ n ih => intro hn; show bval (byt A) n + (byt A n).toNat * _ = bval (byt B) n + (byt B n).toNat * _; rw [ih (by omega), h n (by omega)]
  have := key 32 (by omega)
  rw [bval_byt, bval_byt] at this
  rwa [show 8 * 32 = 256 by decide, Nat.mod_eq_of_lt hA, Nat.mod_eq_of_lt hB] at this
/-- the lowest n bytes of a number, as a list -/
def lb (n V : Nat) : List UInt8 := (List.range n).map fun j => UInt8.ofNat (V / 2 ^ (8 * j) % 256)
theorem lb_length (n V : Nat) : (lb n V).length = n := by simp [lb]
theorem lb_get {n V j : Nat} (hj : j < n) : (lb n V)[j]? = some (UInt8.ofNat (V / 2 ^ (8 * j) % 256)) := by simp [lb, hj]
theorem lb_byt (V j : Nat) : ((UInt8.ofNat (V / 2 ^ (8 * j) % 256)).toNat : Int) = byt V j := by
  unfold byt
  rw [UInt8.toNat_ofNat', Nat.mod_mod]
theorem bs8_lb (n V : Nat) : bs8 (lb n V) = lstK .u8 n (byt V) := by
  unfold bs8 lb lstK
  rw [List.map_map]
  apply List.map_congr_left
  intro j _
  simp only [Function.comp, lb_byt]
theorem arrK_list (n : Nat) (f : Nat → Int) : (arrK .u8 n f).toList = lstK .u8 n f := rfl
/-- the number of a text's bytes, the lowest first -/
def le : List UInt8 → Nat
  | [] => 0
  | x :: r => x.toNat + 256 * le r
theorem lb_succ (n V : Nat) : lb (n + 1) V = UInt8.ofNat (V % 256) :: lb n (V / 256) := by
  unfold lb
  rw [List.range_succ_eq_map, List.map_cons, List.map_map]
  congr 1
  · rw [Nat.mul_zero, Nat.pow_zero, Nat.div_one]
  · apply List.map_congr_left
    intro j _
    simp only [Function.comp]
    rw [Nat.div_div_eq_div_mul, Nat.succ_eq_add_one, Nat.mul_add, Nat.pow_add, Nat.mul_comm (2 ^ (8 * j))]
theorem lb_le : ∀ l : List UInt8, lb l.length (le l) = l
  | [] => rfl
  | x :: r => by
    have hx : x.toNat < 256 := x.toNat_lt
    rw [List.length_cons, lb_succ]
    show UInt8.ofNat ((x.toNat + 256 * le r) % 256) :: lb r.length ((x.toNat + 256 * le r) / 256) = _
    rw [show (x.toNat + 256 * le r) % 256 = x.toNat by omega, show (x.toNat + 256 * le r) / 256 = le r by omega, lb_le r]
    congr 1
    exact UInt8.ofNat_toNat
theorem lb_le' {l : List UInt8} {n : Nat} (h : l.length = n) : lb n (le l) = l := h ▸ lb_le l
theorem arrK_inj {n : Nat} {f g : Nat → Int} (h : (arrK .u8 n f).toList = (arrK .u8 n g).toList) : arrK .u8 n f = arrK .u8 n g := by
  rw [← Array.toArray_toList (xs := arrK .u8 n f), h, Array.toArray_toList]
theorem sl_part {w : World} {b off n c V : Nat} {cs : Array Value} {t : TypeId} (h : Blk w b cs t) (hc : ∀ i v, (arrK .u8 n (byt V))[i]? = some v → cs[off + i]? = some v) (hn : n ≤ c) (hm : c ≤ maxLen) : Sl w (.slice (some ⟨b, off, none⟩) n c) (lb n V) :=
  sl_blk h (lb_length n V).symm hn hm fun j x hj => by
    have hj2 : j < n := by have := (List.getElem?_eq_some_iff.1 hj).1; rwa [lb_length] at this
    rw [lb_get hj2] at hj
    have := Option.some.inj hj
    subst this
    rw [lb_byt]
    exact hc j _ (arrK_get _ _ _ _ hj2)
theorem ap0 {a : Array Value} : ∀ i v, a[i]? = some v → a[0 + i]? = some v := fun i v h => by rw [Nat.zero_add]; exact h
theorem pv0 {w : World} : ∀ (i : Nat) (l : List UInt8), ([] : List (List UInt8))[i]? = some l → ∃ u, ([] : List Value)[i]? = some u ∧ Sl w u l := fun i l h => by simp at h
theorem pvc {w : World} {ps : List (List UInt8)} {vs : List Value} {v : Value} {m : List UInt8} (h : Sl w v m) (k : ∀ (i : Nat) (l : List UInt8), ps[i]? = some l → ∃ u, vs[i]? = some u ∧ Sl w u l) :
    ∀ (i : Nat) (l : List UInt8), (m :: ps)[i]? = some l → ∃ u, (v :: vs)[i]? = some u ∧ Sl w u l
  | 0, l, hi => ⟨v, rfl, by
      have e : m = l := by simpa using hi
      subst e; exact h⟩
  | i + 1, l, hi => k i l (by simpa using hi)
theorem pss_blk {w : World} {g : Nat} {cs : Array Value} {ps : List (List UInt8)} {t : TypeId} (h : Blk w g cs t) (hv : ∀ (i : Nat) (l : List UInt8), ps[i]? = some l → ∃ u, cs.toList[i]? = some u ∧ Sl w u l) :
    ∀ (i : Nat) (l : List UInt8), ps[i]? = some l → ∃ ad u, some (⟨g, 0, none⟩ : Addr) = some ad ∧ w.cell? (ad.add i) = some u ∧ Sl w u l := fun i l hi => by
  obtain ⟨u, h1, h2⟩ := hv i l hi
  exact ⟨_, u, rfl, by rw [Addr.add_mid, blk_cell h, Nat.zero_add]; simpa using h1, h2⟩
end Go.Proofs.YtndnlbinnhdmbaaDoor
