/- Sums of 32 bytes: the padded row, the states, the sum; a sum that goes on. No conditions. -/
import Derived.Test.YtndnlbinnhdmbaaDoorSqC
import Derived.Test.YtndnlbinnhdmbaaDoorSg
set_option linter.unusedSimpArgs false
set_option linter.unusedVariables false
namespace Go.Proofs.YtndnlbinnhdmbaaDoor
open Go.RowKit

/-- how many zeros stand behind the mark -/
def zc4 (n : Nat) : Nat := (119 - n % 64) % 64
/-- the padded row -/
def pad4 (l : List UInt8) : List UInt8 := l ++ [128] ++ List.replicate (zc4 l.length) 0 ++ be8 (8 * l.length)
def nb4 (n : Nat) : Nat := (n + 1 + zc4 n + 8) / 64
theorem zc_spec4 (n : Nat) : (n + 1 + zc4 n) % 64 = 56 ∧ zc4 n < 64 := by unfold zc4; omega
theorem zc_lt4 {n k : Nat} (h : k < zc4 n) : (n + 1 + k) % 64 ≠ 56 := by unfold zc4 at h; omega
theorem zc_rest4 (n : Nat) : zc4 (n - 64 * (n / 64)) = zc4 n := by unfold zc4; omega
theorem nb_rest4 (n : Nat) : nb4 (n - 64 * (n / 64)) + n / 64 = nb4 n := by unfold nb4 zc4; omega
theorem pad_length4 (l : List UInt8) : (pad4 l).length = 64 * nb4 l.length := by
  have h := zc_spec4 l.length
  unfold pad4 nb4
  simp only [List.length_append, List.length_cons, List.length_nil, List.length_replicate, be8]
  omega
/-- the states -/
def Hs4 (P : List UInt8) : Nat → Nat → Int
  | 0 => hf4
  | j + 1 => prs4 (Hs4 P j) (bt (P.drop (64 * j)))
/-- byte by byte -/
def ob4 (H : Nat → Int) (j : Nat) : Int := w8 (sr4 (H (j / 4)) (8 * (3 - j % 4)))
def outp4 (H : Nat → Int) (n j : Nat) : Int := if j < n then ob4 H j else 0
theorem outp_zero4 (H : Nat → Int) : outp4 H 0 = fun _ => 0 := by funext j; unfold outp4; rw [if_neg (by omega)]
theorem outp_step4 (H : Nat → Int) (i k : Nat) (hk : k < 4) : upd (outp4 H (4 * i + k)) (4 * i + k) (w8 (sr4 (H i) (8 * (3 - k)))) = outp4 H (4 * i + (k + 1)) := by
  funext j
  unfold upd outp4
  by_cases h : j = 4 * i + k
  · subst h
    rw [if_pos rfl, if_pos (by omega), ob4, show (4 * i + k) / 4 = i by omega, show (4 * i + k) % 4 = k by omega]
  · rw [if_neg h]
    by_cases hl : j < 4 * i + k
    · rw [if_pos hl, if_pos (by omega)]
    · rw [if_neg hl, if_neg (by omega)]
theorem outp_end4 (H : Nat → Int) : arrK .u8 32 (outp4 H 32) = arrK .u8 32 (ob4 H) := arrK_congr _ _ _ _ fun j hj => by unfold outp4; rw [if_pos hj]
/-- the sum's bytes -/
def sm4 (l : List UInt8) : Nat → Int := ob4 (Hs4 (pad4 l) (nb4 l.length))
theorem drop_next4 (P : List UInt8) (j : Nat) : List.drop 64 (List.drop (64 * j) P) = List.drop (64 * (j + 1)) P := by
  rw [List.drop_drop]; congr 1
/-! ### a block's words are of its bytes alone -/
theorem wrd_congr4 {a b : Nat → Int} {i : Nat} : ∀ k, (∀ j, j < 4 * i + k → a j = b j) → wrd4 a i k = wrd4 b i k
  | 0, _ => rfl
  | k + 1, h => by
    show oo4 (sl4 (wrd4 a i k) 8) (a (4 * i + k)) = oo4 (sl4 (wrd4 b i k) 8) (b (4 * i + k))
    rw [wrd_congr4 k (fun j hj => h j (by omega)), h (4 * i + k) (by omega)]
theorem sch_congr4 {a b : Nat → Int} (h : ∀ j, j < 64 → a j = b j) : ∀ i, sch4 a i = sch4 b i
  | 0 => rfl
  | i + 1 => by
    show upd (sch4 a i) i (if i < 16 then wrd4 a i 4 else sg4 (sch4 a i) i) = upd (sch4 b i) i (if i < 16 then wrd4 b i 4 else sg4 (sch4 b i) i)
    rw [sch_congr4 h i]
    by_cases hi : i < 16
    · rw [if_pos hi, if_pos hi, wrd_congr4 4 (fun j hj => h j (by omega))]
    · rw [if_neg hi, if_neg hi]
theorem prs_congr4 {H a b : Nat → Int} (h : ∀ j, j < 64 → a j = b j) : prs4 H a = prs4 H b := by
  funext j
  unfold prs4
  rw [sch_congr4 h 64]
theorem bt_drop4 (P : List UInt8) (n m : Nat) : bt (P.drop n) m = bt P (n + m) := by
  unfold bt
  simp [List.getD_eq_getElem?_getD, List.getElem?_drop]
theorem Hs_congr4 {P Q : List UInt8} : ∀ k, (∀ j, j < 64 * k → bt P j = bt Q j) → Hs4 P k = Hs4 Q k
  | 0, _ => rfl
  | k + 1, h => by
    show prs4 (Hs4 P k) (bt (P.drop (64 * k))) = prs4 (Hs4 Q k) (bt (Q.drop (64 * k)))
    rw [Hs_congr4 k (fun j hj => h j (by omega))]
    exact prs_congr4 fun j hj => by rw [bt_drop4, bt_drop4]; exact h _ (by omega)
theorem bt_app4 {P Q : List UInt8} {j : Nat} (h : j < P.length) : bt (P ++ Q) j = bt P j := by
  unfold bt
  simp [List.getD_eq_getElem?_getD, List.getElem?_append, h]
/-! ### a sum that goes on -/
/-- the words behind some bytes, and what is left of these -/
def hw4 (F : List UInt8) : Nat → Int := Hs4 F (F.length / 64)
def hr4 (F : List UInt8) : List UInt8 := F.drop (64 * (F.length / 64))
theorem hr_length4 (F : List UInt8) : (hr4 F).length = F.length - 64 * (F.length / 64) := by unfold hr4; rw [List.length_drop]
theorem hr_lt4 (F : List UInt8) : (hr4 F).length < 64 := by rw [hr_length4]; omega
theorem drop_app4 {F b : List UInt8} : (F ++ b).drop (64 * (F.length / 64)) = hr4 F ++ b := by
  unfold hr4
  rw [List.drop_append_of_le_length (by omega)]
theorem hw_app4 (F b : List UInt8) : hw4 F = Hs4 (F ++ b) (F.length / 64) := Hs_congr4 _ fun j hj => (bt_app4 (by omega)).symm
/-- a block more -/
theorem hs_next4 (F b : List UInt8) (k : Nat) : prs4 (Hs4 (F ++ b) (F.length / 64 + k)) (bt ((hr4 F ++ b).drop (64 * k))) = Hs4 (F ++ b) (F.length / 64 + (k + 1)) := by
  rw [← drop_app4, List.drop_drop, ← Nat.mul_add]; rfl
/-- behind all blocks -/
theorem hs_end4 {F b : List UInt8} {k : Nat} (h : k = (hr4 F ++ b).length / 64) : Hs4 (F ++ b) (F.length / 64 + k) = hw4 (F ++ b) ∧ (hr4 F ++ b).drop (64 * k) = hr4 (F ++ b) := by
  have e : F.length / 64 + k = (F ++ b).length / 64 := by rw [h, List.length_append, List.length_append, hr_length4]; omega
  refine ⟨by rw [hw4, e], ?_⟩
  rw [← drop_app4, List.drop_drop, ← Nat.mul_add, e]; rfl
/-- what is padded at the end -/
theorem pad_rest4 (F : List UInt8) : (pad4 F).drop (64 * (F.length / 64)) = hr4 F ++ [128] ++ List.replicate (zc4 F.length) 0 ++ be8 (8 * F.length) := by
  unfold pad4
  rw [List.append_assoc, List.append_assoc, drop_app4]
  simp only [List.append_assoc]
theorem hw_pad4 (F : List UInt8) : hw4 F = Hs4 (pad4 F) (F.length / 64) := by
  unfold pad4
  rw [List.append_assoc, List.append_assoc]
  exact hw_app4 _ _
theorem pad_next4 (F : List UInt8) (k : Nat) : prs4 (Hs4 (pad4 F) (F.length / 64 + k)) (bt (((pad4 F).drop (64 * (F.length / 64))).drop (64 * k))) = Hs4 (pad4 F) (F.length / 64 + (k + 1)) := by
  rw [List.drop_drop, ← Nat.mul_add]; rfl
theorem pad_end4 (F : List UInt8) : F.length / 64 + nb4 (hr4 F).length = nb4 F.length := by
  rw [hr_length4, Nat.add_comm]; exact nb_rest4 _
end Go.Proofs.YtndnlbinnhdmbaaDoor
