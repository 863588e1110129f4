/- Texts and rows of bytes. No conditions. -/
import Derived.Test.YtjikomnnhbbmaaaDoorBv
import Derived.Test.YtjikomnnhbbmaaaDoorLim16
import Derived.Test.YtjikomnnhbbmaaaDoorReg2
import Derived.Test.YtjikomnnhbbmaaaDoorCarry
import Derived.Deep.RegionHeld3
import Derived.Deep.AppendLies
namespace Go.Proofs.YtjikomnnhbbmaaaDoor
set_option linter.unusedSimpArgs false
set_option linter.unusedVariables false
open Go.RowKit

/-- n cells as a list, by a function -/
def lstK (k : IntKind) (n : Nat) (f : Nat → Int) : List Value := (List.range n).map fun i => Value.int k (f i)
theorem lstK_length (k : IntKind) (n : Nat) (f : Nat → Int) : (lstK k n f).length = n := by simp [lstK]
theorem lstK_succ (k : IntKind) (n : Nat) (f : Nat → Int) : lstK k (n + 1) f = lstK k n f ++ [.int k (f n)] := by simp [lstK, List.range_succ]
theorem lstK_get (k : IntKind) (n : Nat) (f : Nat → Int) (i : Nat) (h : i < n) : (lstK k n f)[i]? = some (.int k (f i)) := by simp [lstK, h]
/-- n bytes as a text, by a function -/
def strN (n : Nat) (f : Nat → Int) : Value := .string (strOfNums ((List.range n).map f))
theorem strN_congr (n : Nat) (f g : Nat → Int) (h : ∀ i, i < n → f i = g i) : strN n f = strN n g := by
  unfold strN
  rw [List.map_congr_left (fun i hi => h i (by simpa using hi))]
theorem run_string_own {P : Program} {w : World} {base src e n : Nat} {v : Value} {f : Nat → Int} (hs : P.underlying src = some (.slice e)) (he : P.underlying e = some (.int .u8))
    (hown : w.ownsRow base e 1 v n (lstK .u8 n f)) : ∀ dst, P.underlying dst = some .string → (convert src dst v).run P w = .ok (strN n f) w := by
  intro dst hd
  have h := hown
  obtain ⟨_, ⟨rfl, rfl⟩ | ⟨g, cap, cur, rfl, _, _, _, _, _, _⟩⟩ := h
  · exact run_convert_bytes_nil w src e hs he _ _ dst hd
  · refine run_convert_bytes_arg w src e hs he g 0 n cap ((List.range n).map f) (by simp) (fun i hi => ?_) dst hd
    rw [Nat.zero_add, hown.cellAt i (by omega), lstK_get _ _ _ _ hi]
    simp [List.getD, hi]
theorem byteInfo : (Tryd.prog.info? 5).map (fun i => (i.zero, i.size, i.bytes)) = some (some (.int .u8 0), 1, 1) := by kernel_rfl
theorem own_below {B : Nat} {w w' : World} {row : Option Nat} {a : World} (h : Below B a w) (hg : w.grownBy w' row) (hB : B ≤ w.heap.size) (hr : ∀ k, row = some k → B ≤ k) : Below B a w' := h.grown hg hB hr
theorem blk_grown {w w' : World} {b : Nat} {cs : Array Value} {t : TypeId} {row : Option Nat} (h : Blk w b cs t) (hg : w.grownBy w' row) (hr : ∀ k, row = some k → b < k) : Blk w' b cs t := by
  refine blk_below h ((Below.refl (b + 1) w).grown hg (blk_lt h) (fun k hk => hr k hk)) (by omega)

theorem byt_bval (bs : Nat → Int) (h : ∀ j, u8ok (bs j)) : ∀ n j, j < n → byt (bval bs n) j = bs j
  | 0, j, hj => by omega
  | n + 1, j, hj => by
    have hl := bval_lt bs h n
    obtain ⟨b0, b1⟩ := h n
    show byt (bval bs n + (bs n).toNat * 2 ^ (8 * n)) j = _
    by_cases he : j = n
    · subst he
      unfold byt
      rw [Nat.add_mul_div_right _ _ (Nat.two_pow_pos _), Nat.div_eq_of_lt hl]
      omega
    · rw [← byt_bval bs h n j (by omega)]
      unfold byt
      obtain ⟨d, rfl⟩ : ∃ d, n = j + 1 + d := ⟨n - j - 1, by omega⟩
      rw [show 8 * (j + 1 + d) = 8 * j + (8 + 8 * d) by omega, Nat.pow_add 2 (8 * j), Nat.mul_left_comm, Nat.add_mul_div_left _ _ (Nat.two_pow_pos _), Nat.pow_add 2 8, Nat.mul_left_comm, show (2 : Nat) ^ 8 = 256 by decide, Nat.add_mul_mod_self_left]

theorem strN_size (n : Nat) (f : Nat → Int) : (strOfNums ((List.range n).map f)).size = n := by rw [strOfNums_size]; simp
theorem strN_index {P : Program} (t : TypeId) (ht : P.underlying t = some .string) (n : Nat) (f : Nat → Int) (hf : ∀ j, j < n → u8ok (f j)) (i : Nat) (hi : i < n) (w : World) :
    (Instr.index t (.string (strOfNums ((List.range n).map f))) (.int .i64 (i : Int))).run P w = .ok (.int .u8 (f i)) w := by
  have hb := hf i hi
  have hs := strN_size n f
  have hlt : i < (strOfNums ((List.range n).map f)).size := by omega
  have hg : ((strOfNums ((List.range n).map f))[i]'hlt).toNat = (f i).toNat := by
    show (((strOfNums ((List.range n).map f)).data[i]'hlt)).toNat = _
    simp only [strOfNums, List.map_map, List.getElem_toArray, List.getElem_map, List.getElem_range, Function.comp]
    obtain ⟨h0, h1⟩ := hb
    have : (f i).toNat < 256 := by omega
    simp [UInt8.toNat_ofNat', Nat.mod_eq_of_lt this]
  have hfi : ((f i).toNat : Int) = f i := Int.toNat_of_nonneg hb.1
  simp [Instr.index, asIntOf, run_underlying ht, hs, hi, hlt, hg, hfi]

end Go.Proofs.YtjikomnnhbbmaaaDoor
