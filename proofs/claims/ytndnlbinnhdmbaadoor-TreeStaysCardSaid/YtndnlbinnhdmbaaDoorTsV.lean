/- Lists of leaves, the plain law: the order in which leaves of unlike keys are put is no matter; a leaf that is there is found. No conditions. -/
import Derived.Test.YtndnlbinnhdmbaaDoorTsN
set_option linter.unusedSimpArgs false
set_option linter.unusedVariables false
namespace Go.Proofs.YtndnlbinnhdmbaaDoor
theorem mem_rput_iff {x z : Lf} : ∀ {l : List Lf}, z ∈ rput l x ↔ z = x ∨ (z ∈ l ∧ z.1 ≠ x.1)
  | [] => by rw [show rput [] x = [x] from rfl]; simp
  | y :: r => by
    cases hk : kl y.1 x.1 with
    | true =>
      have hne : y.1 ≠ x.1 := fun e => by rw [e, kl_irr] at hk; cases hk
      rw [rput_lt hk, List.mem_cons, mem_rput_iff, List.mem_cons]
      constructor
      · rintro (rfl | h | ⟨h1, h2⟩)
        · exact .inr ⟨.inl rfl, hne⟩
        · exact .inl h
        · exact .inr ⟨.inr h1, h2⟩
      · rintro (h | ⟨rfl | h1, h2⟩)
        · exact .inr (.inl h)
        · exact .inl rfl
        · exact .inr (.inr ⟨h1, h2⟩)
    | false =>
      rw [rput_ge hk]
      simp only [List.cons_append, List.mem_cons, List.mem_append, List.mem_filter, decide_eq_true_eq]
      by_cases e : y.1 = x.1
      · rw [if_pos e]
        constructor
        · rintro (h | h | ⟨h1, h2⟩)
          · exact .inl h
          · cases h
          · exact .inr ⟨.inr h1, h2⟩
        · rintro (h | ⟨rfl | h1, h2⟩)
          · exact .inl h
          · exact absurd e h2
          · exact .inr (.inr ⟨h1, h2⟩)
      · rw [if_neg e]
        constructor
        · rintro (h | h | ⟨h1, h2⟩)
          · exact .inl h
          · rw [List.mem_singleton.1 h]; exact .inr ⟨.inl rfl, e⟩
          · exact .inr ⟨.inr h1, h2⟩
        · rintro (h | ⟨rfl | h1, h2⟩)
          · exact .inl h
          · exact .inr (.inl (List.mem_singleton.2 rfl))
          · exact .inr (.inr ⟨h1, h2⟩)
end Go.Proofs.YtndnlbinnhdmbaaDoor
