/- An argument that is an array of integers, opened: its cells are integers of its kind. No conditions. -/
import Derived.Test.YtefpoollmbmkfaaDoorGa
import Derived.WalkKit
import Derived.ProofKit
import Derived.OpenShut
import Derived.Deep.DeepHandedRow
import Derived.Lib.LaidTab
set_option linter.unusedSimpArgs false
set_option linter.unusedVariables false
namespace Go.Proofs.YtefpoollmbmkfaaDoor
open Go.RowKit Go.ChangeShapes Go.WideShapes Go.ChangeAt

theorem mapM_ints {H : Type} {enc : TypeId × Value → H} {P : Program} {W : World} {base : Nat} {sp : Nat → Bool} {held : Bool} {e : TypeId} {q : IntKind} (he : P.underlying e = some (.int q)) {m : Nat} {cs : List Value} :
    ∀ (L : List Nat) (ys : List (DataW H × List MemPlace)), L.mapM (fun i => DataW.trod enc P W base sp held m e ((cs.drop (i * 1)).take 1)) = some ys →
      (∀ i, i ∈ L → ∃ a : Int, cs[i]? = some (.int q a) ∧ (Lit.int q a).wf = true) ∧ ys.flatMap (·.2) = []
  | [], ys, h => by
    simp at h; subst h; exact ⟨fun i hi => by simp at hi, rfl⟩
  | i :: L, ys, h => by
    rw [List.mapM_cons] at h
    simp only [bind, Option.bind_eq_some_iff, pure, Option.some.injEq] at h
    obtain ⟨y, hy, zs, hzs, rfl⟩ := h
    obtain ⟨h1, h2⟩ := mapM_ints he L zs hzs
    obtain ⟨a, ea, rfl, wa⟩ := DataW.trod_int he hy
    refine ⟨fun j hj => ?_, by simp only [List.flatMap_cons, h2, List.append_nil]⟩
    rcases List.mem_cons.mp hj with rfl | hj
    · refine ⟨a, ?_, wa⟩
      have h0 := congrArg (fun l : List Value => l[0]?) ea
      rw [Nat.mul_one] at h0
      rw [List.getElem?_take_of_lt (by omega), List.getElem?_drop] at h0
      exact h0
    · exact h1 j hj

theorem open_arrK {H : Type} {enc : TypeId × Value → H} {P : Program} {W W' : World} {base b0 : Nat} {sp : Nat → Bool} {held : Bool} {r : Reach} {t e : TypeId} {n : Nat} {q : IntKind} {v : Value} {d : DataW H} {ps : List MemPlace}
    (ht : P.underlying t = some (.array n e)) (he : P.underlying e = some (.int q)) (hc : P.cellsOf e = 1) (hct : P.cellsOf t = n)
    (hval : Value.okWide P W' r b0 t v) (hd : DataW.Trod enc P W base sp held t v d ps) :
    ∃ f : Nat → Int, v = .agg (arrK q n f) ∧ (∀ i, i < n → (Lit.int q (f i)).wf = true) ∧ ps = [] := by
  simp only [Value.okWide, ht] at hval
  obtain ⟨cs, rfl, hsz, _⟩ := hval
  rw [hct] at hsz
  obtain ⟨fuel, hf⟩ := hd
  cases fuel with
  | zero => simp [DataW.trod] at hf
  | succ m =>
    rw [DataW.trod_step] at hf
    unfold DataW.trodStep at hf
    simp only [ht, Value.cells] at hf
    rw [if_pos (by rw [hct]; simpa using hsz)] at hf
    simp only [Option.map_eq_some_iff] at hf
    obtain ⟨ys, hy, e1⟩ := hf
    rw [hc] at hy
    obtain ⟨h1, h2⟩ := mapM_ints he _ ys hy
    have h3 : ∀ i, i < n → ∃ a : Int, cs[i]? = some (.int q a) ∧ (Lit.int q a).wf = true := fun i hi => by
      obtain ⟨a, ha, hw⟩ := h1 i (by simpa using hi)
      exact ⟨a, by simpa using ha, hw⟩
    obtain ⟨f, hf⟩ : ∃ f : Nat → Int, ∀ i, i < n → cs[i]? = some (.int q (f i)) ∧ (Lit.int q (f i)).wf = true :=
      ⟨fun i => if h : i < n then Classical.choose (h3 i h) else 0, fun i hi => by
        simp only [dif_pos hi]; exact Classical.choose_spec (h3 i hi)⟩
    refine ⟨f, ?_, fun i hi => (hf i hi).2, ?_⟩
    · congr 1
      apply Array.ext
      · rw [arrK_size]; exact hsz
      · intro i hi1 hi2
        have hi : i < n := by rw [← hsz]; exact hi1
        have g1 := (hf i hi).1
        have g2 := arrK_get q n f i hi
        rw [Array.getElem?_eq_getElem hi1] at g1
        rw [Array.getElem?_eq_getElem hi2] at g2
        exact Option.some.inj (g1.trans g2.symm)
    · have := congrArg Prod.snd e1
      simpa [h2] using this.symm
end Go.Proofs.YtefpoollmbmkfaaDoor
