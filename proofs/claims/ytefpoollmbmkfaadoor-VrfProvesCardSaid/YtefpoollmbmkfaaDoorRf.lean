/- custumalref06.Clamp, over a text of 32 bytes. Conditions: they are bytes. -/
import Derived.Test.YtefpoollmbmkfaaDoorNd
import Derived.Test.YtefpoollmbmkfaaDoorRb
set_option linter.unusedSimpArgs false
set_option linter.unusedVariables false
namespace Go.Proofs.YtefpoollmbmkfaaDoor.Sc
set_option maxHeartbeats 2000000
set_option maxRecDepth 100000
open Go.RowKit

theorem strN_bytes (n : Nat) (f : Nat → Int) (hf : ∀ j, u8ok (f j)) (cap : Nat) (j : Nat) (hj : j < n) : (bytesRow (strOfNums ((List.range n).map f)) cap)[j]? = some (.int .u8 (f j)) := by
  unfold bytesRow
  have hsz : (strOfNums ((List.range n).map f)).data.size = n := strN_size n f
  rw [Array.getElem?_append_left (by simp only [Array.size_map, hsz]; exact hj)]
  simp only [strOfNums, List.map_map, Array.getElem?_map, List.getElem?_toArray, List.getElem?_map, List.getElem?_range hj, Option.map_some, Function.comp]
  obtain ⟨h0, h1⟩ := hf j
  have : (f j).toNat < 256 := by omega
  simp [UInt8.toNat_ofNat', Nat.mod_eq_of_lt this, Int.toNat_of_nonneg h0]
theorem bval_byt (X : Nat) : ∀ n, bval (byt X) n = X % 2 ^ (8 * n)
  | 0 => by simp [bval, Nat.mod_one]
  | n + 1 => by
    show bval (byt X) n + (byt X n).toNat * 2 ^ (8 * n) = _
    rw [bval_byt X n, Nat.mul_add, Nat.pow_add, Nat.mod_mul]
    unfold byt
    rw [Int.toNat_natCast, Nat.mul_comm (2 ^ (8 * n))]
/-- What the text's bytes are once they lie in memory. -/
def Cl (w : World) (g : Nat) (f : Nat → Int) : Prop := (∀ j, j < 32 → w.cell? ⟨g, j, none⟩ = some (.int .u8 (f j))) ∧ (∀ j, j < 32 → w.frozen? ⟨g, j, none⟩ = false) ∧ g < w.heap.size

theorem Cl_new (w : World) (bs : Nat → Int) (hbs : ∀ j, u8ok (bs j)) (S : ByteArray) (hS : S = strOfNums ((List.range 32).map bs)) (c : Nat) :
    Cl (w.drew.alloc (.cells (bytesRow S c) 5 ((bytesRow S c).size, (bytesRow S c).size + 1))) w.heap.size bs := by
  have hsz : S.size = 32 := by rw [hS]; exact strN_size 32 bs
  have hs2 : 32 ≤ (bytesRow S c).size := by
    unfold bytesRow
    rw [Array.size_append, Array.size_map]
    have : S.data.size = 32 := hsz
    omega
  refine ⟨fun j hj => ?_, fun j hj => ?_, by rw [World.size_alloc]; exact Nat.lt_succ_self _⟩
  · have h1 := World.cell?_alloc_mark w.drew (bytesRow S c) 5 ((bytesRow S c).size, (bytesRow S c).size + 1) j
    refine Eq.trans h1 ?_
    rw [hS]; exact strN_bytes 32 bs hbs c j hj
  · have hh : (w.drew.alloc (.cells (bytesRow S c) 5 ((bytesRow S c).size, (bytesRow S c).size + 1))).heap[w.heap.size]? = some (.cells (bytesRow S c) 5 ((bytesRow S c).size, (bytesRow S c).size + 1)) := by
      show (w.heap.push _)[w.heap.size]? = _
      simp
    have hlt : j < (bytesRow S c).size := by omega
    simp only [World.frozen?, hh]
    rw [decide_eq_false (show ¬ (bytesRow S c).size ≤ j by omega)]; rfl
theorem Cl_string (w : World) (g c : Nat) (f : Nat → Int) (h : Cl w g f) : (convert 23 9 (.slice (some ⟨g, 0, none⟩) 32 c)).run Tryd.prog w = .ok (.string (strOfNums ((List.range 32).map f))) w :=
  run_convert_bytes_arg w 23 5 Tryd.underlying23 Tryd.underlying5 g 0 32 c ((List.range 32).map f) (by simp) (fun i hi => by rw [Nat.zero_add, h.1 i hi]; simp [List.getD, hi]) 9 Tryd.underlying9
theorem Cl_set (w : World) (g i : Nat) (f : Nat → Int) (h : Cl w g f) (hi : i < 32) (x : Int) : Cl (w.setCell ⟨g, i, none⟩ (.int .u8 x)) g (upd f i x) := by
  refine ⟨fun j hj => ?_, fun j hj => ?_, by rw [World.size_setCell]; exact h.2.2⟩
  · unfold upd
    by_cases he : j = i
    · subst he
      rw [if_pos rfl]
      first | exact World.cell?_setCell_same _ (h.1 j hj) | exact World.cell?_setCell_same _ _ _ (h.1 j hj)
    · have hne : (⟨g, i, none⟩ : Addr) ≠ ⟨g, j, none⟩ := by intro e; apply he; injection e with _ e2; exact e2.symm
      rw [if_neg he, World.cell?_setCell_other _ _ _ _ hne]
      exact h.1 j hj
  · have := World.frozen?_setCells (g) [Value.int .u8 x] i w ⟨g, j, none⟩
    rw [← h.2.1 j hj, ← this]; rfl
theorem Cl_congr {w : World} {g : Nat} {f f' : Nat → Int} (h : Cl w g f) (he : ∀ j, j < 32 → f j = f' j) : Cl w g f' :=
  ⟨fun j hj => by rw [← he j hj]; exact h.1 j hj, h.2⟩
theorem Cl_clamp (w : World) (g : Nat) (f : Nat → Int) (h : Cl w g f) : Cl ((w.setCell ⟨g, 0, none⟩ (.int .u8 (f 0 - f 0 % 8))).setCell ⟨g, 31, none⟩ (.int .u8 (f 31 % 64 + 64))).drew g (clampF f) := by
  have h2 := Cl_set _ g 31 _ (Cl_set w g 0 f h (by omega) (f 0 - f 0 % 8)) (by omega) (f 31 % 64 + 64)
  exact Cl_congr (w := ((w.setCell ⟨g, 0, none⟩ (.int .u8 (f 0 - f 0 % 8))).setCell ⟨g, 31, none⟩ (.int .u8 (f 31 % 64 + 64))).drew) h2 (fun j hj => by
    unfold upd clampF
    by_cases h : j = 31
    · subst h; rfl
    · by_cases h2 : j = 0
      · subst h2; rfl
      · simp [h, h2])

theorem rclamp_c (bs : Nat → Int) (hbs : ∀ j, u8ok (bs j)) (w : World) :
  Calls Tryd.prog 44 #[strN 32 bs] w fun e w' => Ret (strN 32 (clampF bs)) w w' e := by
 have hcv := fun (W : World) => run_bytes_of_string (P := Tryd.prog) W 9 23 5 (strOfNums ((List.range 32).map bs)) Tryd.underlying9 Tryd.underlying23 Tryd.underlying5
 have hsz := strN_size 32 bs
 unfold strN
 have hnew := fun (c : Nat) => Cl_new w bs hbs _ rfl c
 have hstr := fun (g c : Nat) (W : World) (h : Cl W g (clampF bs)) => Cl_string W g c (clampF bs) h
 obtain ⟨S, hS⟩ : ∃ S, S = strOfNums ((List.range 32).map bs) := ⟨_, rfl⟩
 rw [← hS] at hcv hsz hnew ⊢
 rw [hsz] at hcv
 have r0 := hbs 0
 have r31 := hbs 31
 unfold u8ok at r0 r31
 have m1 : (bs 0).tmod 8 = bs 0 % 8 := Int.tmod_eq_emod_of_nonneg r0.1
 have m2 : (bs 31).tmod 64 = bs 31 % 64 := Int.tmod_eq_emod_of_nonneg r31.1
 have m3 : IntKind.u8.wrap (bs 0 - bs 0 % 8) = bs 0 - bs 0 % 8 := by rw [IntKind.wrap_u8]; omega
 have m4 : IntKind.u8.wrap (bs 31 % 64 + 64) = bs 31 % 64 + 64 := by rw [IntKind.wrap_u8]; omega
 have HN := Lib.hid hnew
 have HST := Lib.hid hstr
 clear hnew hstr hS hbs
 go_enter Tryd.func44, Tryd.ntmps44
 go_upto_region 2 with fail
 refine wp_world (fun W => Below w.heap.size w W ∧ Cl W w.heap.size bs) ⟨bz, HN.out _⟩ ?_
 rintro W ⟨hbel, hcl⟩
 have c0 := hcl.1 0 (by omega)
 have c31 := hcl.1 31 (by omega)
 have f0 := hcl.2.1 0 (by omega)
 have f31 := hcl.2.1 31 (by omega)
 have hg := hcl.2.2
 have hconv := HST.out w.heap.size (grownCap w 32 0 5) _ (Cl_clamp W w.heap.size bs hcl)
 clear hcl
 go_region
 go_wp2
 go_ret
 exact ⟨rfl, ((below_set (below_set hbel (Nat.le_refl _) _ _) (Nat.le_refl _) _ _)).drew⟩
end Go.Proofs.YtefpoollmbmkfaaDoor.Sc
