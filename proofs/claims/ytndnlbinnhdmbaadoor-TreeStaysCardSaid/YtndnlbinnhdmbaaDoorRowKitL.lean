/- Rows of leaves out of the arguments. No conditions. -/
import Derived.Test.YtndnlbinnhdmbaaDoorRowKitT
import Derived.Test.YtndnlbinnhdmbaaDoorTsO
set_option linter.unusedSimpArgs false
set_option linter.unusedVariables false
namespace Go.Proofs.YtndnlbinnhdmbaaDoor
set_option maxRecDepth 100000
open Go.ChangeShapes Go.WideShapes Go.ChangeAt Go.RowKit Go.Deep
theorem cellsLf : Tryd.prog.cellsOf 24 = 64 := by kernel_rfl
theorem spot_none {W : World} {a : Addr} {v : Value} (h : W.cell? a = some v) : a.spot = none := by
  unfold World.cell? at h
  split at h
  · split at h
    · cases h
    · rename_i hs; cases hsp : a.spot with
      | none => rfl
      | some _ => rw [hsp] at hs; exact absurd rfl hs
  · cases h
section
variable {H : Type} {enc : TypeId × Value → H} {W : World} {base : Nat} {sp : Nat → Bool} {held : Bool}
theorem open_lfs {r : Reach} {b0 : Nat} {v : Value} {d : DataW H} {ps : List MemPlace} (hval : Value.okWide Tryd.prog W r b0 38 v) (hd : DataW.Trod enc Tryd.prog W base sp held 38 v d ps) :
    ∃ ls : List Lf, ok256 ls ∧ RR 64 W v (ls.map lfl) := by
  obtain ⟨ao, len, cap, rfl⟩ := okWide_slice Tryd.underlying38 hval
  obtain ⟨fuel, hf⟩ := hd
  rcases open_slice Tryd.underlying38 hf with ⟨hcs, _⟩ | ⟨a, len', cap', m, n, D, Pl, hcs, _, hl, hm, hmm, _, hi⟩
  · simp [Value.cells] at hcs
    obtain ⟨rfl, rfl, rfl⟩ := hcs
    exact ⟨[], fun y hy => (by cases hy), rr_nil 64 W⟩
  · simp [Value.cells] at hcs
    obtain ⟨rfl, rfl, rfl⟩ := hcs
    have hlm : len ≤ m := by rw [hmm]; split <;> omega
    have hs0 : 0 < len → a.spot = none := fun h => by
      obtain ⟨cs', h1, h2⟩ := hi 0 (by omega)
      rw [cellsLf] at h1
      obtain ⟨_, hcl, hcell⟩ := World.cells?_some h1
      have h0 := hcell 0 (by decide)
      rw [List.getElem?_eq_getElem (by rw [hcl]; decide)] at h0
      have h4 := spot_none h0
      simpa [Addr.add] using h4
    have key0 : ∀ i, i < len → ∃ k x : Nat, k < 2 ^ 256 ∧ x < 2 ^ 256 ∧ a.spot = none ∧ ∀ (j : Nat) (u : Value), (lf k x).toList[j]? = some u → W.cell? ⟨a.block, a.off + i * 64 + j, none⟩ = some u := by
      intro i hi'
      obtain ⟨cs', h1, h2⟩ := hi i (by omega)
      rw [cellsLf] at h1
      obtain ⟨_, hcl, hcell⟩ := World.cells?_some h1
      obtain ⟨k, x, hk, hx, e, _⟩ := trod_lf h2
      rw [e] at hcl hcell
      have hs := hs0 (by omega)
      refine ⟨k, x, hk, hx, hs, fun j u hj => ?_⟩
      have hj' : j < 64 := by
        have := (List.getElem?_eq_some_iff.1 hj).1
        have e : (lf k x).toList.length = 64 := hcl
        omega
      have h3 := hcell j hj'
      rw [hj] at h3
      have e2 : (a.add (i * 64)).add j = ⟨a.block, a.off + i * 64 + j, none⟩ := by
        clear hcl hcell h1 h3 hi hmm hf hval
        obtain ⟨ab, ao', asp⟩ := a
        have hs' : asp = none := hs
        subst hs'; rw [Addr.add_mid, Addr.add_mid]
      rw [e2] at h3
      exact h3
    have key : ∀ i, i < len → ∃ x : Lf, (x.1 < 2 ^ 256 ∧ x.2 < 2 ^ 256) ∧ a.spot = none ∧ ∀ (j : Nat) (u : Value), (lfl x)[j]? = some u → W.cell? ⟨a.block, a.off + i * 64 + j, none⟩ = some u := fun i hi' => by
      obtain ⟨k, x, hk, hx, hs, h⟩ := key0 i hi'
      exact ⟨(k, x), ⟨hk, hx⟩, hs, h⟩
    refine ⟨(List.range len).map fun i => if h : i < len then Classical.choose (key i h) else (0, 0), fun y hy => ?_, some a, cap, by simp, by simpa using hl, fun e => (by cases e), fun j e hj => ?_⟩
    · obtain ⟨i, hi, rfl⟩ := List.mem_map.1 hy
      have hil := List.mem_range.1 hi
      rw [dif_pos hil]
      exact (Classical.choose_spec (key i hil)).1
    · rw [List.map_map] at hj
      have hil : j < len := by have := (List.getElem?_eq_some_iff.1 hj).1; simpa using this
      rw [List.getElem?_map, List.getElem?_range hil] at hj
      have hj := Option.some.inj hj
      simp only [Function.comp_apply, dif_pos hil] at hj
      subst hj
      obtain ⟨_, h2, h3⟩ := Classical.choose_spec (key j hil)
      refine ⟨a.block, a.off, ?_, h3⟩
      rw [← h2]
end
end Go.Proofs.YtndnlbinnhdmbaaDoor
