/- An argument that is an array of bytes, opened: each cell a byte, beyond its end nought. No conditions. -/
import Derived.Test.YtghajiagbfcmdaaDoorOpen
import Derived.Test.YtghajiagbfcmdaaDoorGa
namespace Go.Proofs.YtghajiagbfcmdaaDoor
set_option linter.unusedSimpArgs false
set_option linter.unusedVariables false
open Go.RowKit Go.ChangeShapes Go.WideShapes Go.ChangeAt

theorem arrK_ext (k : IntKind) (n : Nat) (f g : Nat → Int) (h : ∀ i, i < n → f i = g i) : arrK k n f = arrK k n g := by
  unfold arrK
  congr 1
  apply List.map_congr_left
  intro i hi
  rw [h i (by simpa using hi)]
theorem open_bytes {H : Type} {enc : TypeId × Value → H} {P : Program} {W W' : World} {base b0 : Nat} {sp : Nat → Bool} {held : Bool} {r : Reach} {t e : TypeId} {n : Nat} {v : Value} {d : DataW H} {ps : List MemPlace}
    (ht : P.underlying t = some (.array n e)) (he : P.underlying e = some (.int .u8)) (hc : P.cellsOf e = 1) (hct : P.cellsOf t = n)
    (hval : Value.okWide P W' r b0 t v) (hd : DataW.Trod enc P W base sp held t v d ps) : ∃ f : Nat → Int, v = .agg (arrK .u8 n f) ∧ (∀ i, u8ok (f i)) ∧ ps = [] := by
  obtain ⟨f, hv, hf, hp⟩ := open_arrK ht he hc hct hval hd
  refine ⟨fun i => if i < n then f i else 0, ?_, fun i => ?_, hp⟩
  · rw [hv, arrK_ext .u8 n f (fun i => if i < n then f i else 0) (fun i hi => (if_pos hi).symm)]
  · by_cases h : i < n
    · have := bounds_u8 (hf i h)
      simp only [if_pos h]; unfold u8ok; omega
    · simp only [if_neg h]; unfold u8ok; omega
end Go.Proofs.YtghajiagbfcmdaaDoor
