/- Lists of leaves, the plain law: the order in which leaves of unlike keys are put is no matter; a leaf that is there is found. No conditions. -/
import Derived.Test.YtndnlbinnhdmbaaDoorTsN
set_option linter.unusedSimpArgs false
set_option linter.unusedVariables false
namespace Go.Proofs.YtndnlbinnhdmbaaDoor
theorem mem_rput_iff {x z : Lf} : ∀ {l : List Lf}, z ∈ rput l x ↔ z = x ∨ (z ∈ l ∧ z.1 ≠ x.1)
  | [] => by rw [show rput [] x = [x] from rfl]; simp
  | y :: r => by
    cases hk : kl y.1 x.1 with
    | true =>
      have hne : y.1 ≠ x.1 := fun e => by rw [e, kl_irr] at hk; cases hk
      rw [rput_lt hk, List.mem_cons, mem_rput_iff, List.mem_cons]
      constructor
      · rintro (rfl | h | ⟨h1, h2⟩)
        · exact .inr ⟨.inl rfl, hne⟩
        · exact .inl h
        · exact .inr ⟨.inr h1, h2⟩
      · rintro (h | ⟨rfl | h1, h2⟩)
        · exact .inr (.inl h)
        · exact .inl rfl
        · exact .inr (.inr ⟨h1, h2⟩)
    | false =>
      rw [rput_ge hk]
      simp only [List.cons_append, List.mem_cons, List.mem_append, List.mem_filter, decide_eq_true_eq]
      by_cases e : y.1 = x.1
      · rw [if_pos e]
        constructor
        · rintro (h | h | ⟨h1, h2⟩)
          · exact .inl h
          · cases h
          · exact .inr ⟨.inr h1, h2⟩
        · rintro (h | ⟨rfl | h1, h2⟩)
          · exact .inl h
          · exact absurd e h2
          · exact .inr (.inr ⟨h1, h2⟩)
      · rw [if_neg e]
        constructor
        · rintro (h | h | ⟨h1, h2⟩)
          · exact .inl h
          · rw [List.mem_singleton.1 h]; exact .inr ⟨.inl rfl, e⟩
          · exact .inr ⟨.inr h1, h2⟩
        · rintro (h | ⟨rfl | h1, h2⟩)
          · exact .inl h
          · exact .inr (.inl (List.mem_singleton.2 rfl))
          · exact .inr (.inr ⟨h1, h2⟩)
/-- unlike keys -/
def Unl (l : List Lf) : Prop := l.Pairwise fun a b => a.1 ≠ b.1
theorem mem_fold {z : Lf} : ∀ {ls acc : List Lf}, Unl ls → (z ∈ ls.foldl rput acc ↔ z ∈ ls ∨ (z ∈ acc ∧ ∀ x ∈ ls, z.1 ≠ x.1))
  | [], acc, _ => by simp
  | x :: r, acc, h => by
    have hc := List.pairwise_cons.1 h
    show z ∈ r.foldl rput (rput acc x) ↔ _
    rw [mem_fold hc.2, mem_rput_iff, List.mem_cons]
    constructor
    · rintro (h1 | ⟨rfl | ⟨h1, h2⟩, h3⟩)
      · exact .inl (.inr h1)
      · exact .inl (.inl rfl)
      · exact .inr ⟨h1, fun y hy => by
          rcases List.mem_cons.1 hy with rfl | hy
          · exact h2
          · exact h3 y hy⟩
    · rintro ((rfl | h1) | ⟨h1, h2⟩)
      · exact .inr ⟨.inl rfl, hc.1⟩
      · exact .inl h1
      · exact .inr ⟨.inr ⟨h1, h2 x (by simp)⟩, fun y hy => h2 y (by simp [hy])⟩
theorem mem_rlist {z : Lf} {ls : List Lf} (h : Unl ls) : z ∈ rlist ls ↔ z ∈ ls := by
  unfold rlist; rw [mem_fold h]; simp
theorem kl_ne {a b : Lf} (h : kl a.1 b.1 = true) : a.1 ≠ b.1 := fun e => by rw [e, kl_irr] at h; cases h
theorem srt_unl {l : List Lf} (h : Srt l) : Unl l := h.imp fun h => kl_ne h
theorem srt_ext : ∀ {a b : List Lf}, Srt a → Srt b → (∀ z, z ∈ a ↔ z ∈ b) → a = b
  | [], [], _, _, _ => rfl
  | [], y :: s, _, _, h => absurd ((h y).2 (by simp)) (by simp)
  | x :: r, [], _, _, h => absurd ((h x).1 (by simp)) (by simp)
  | x :: r, y :: s, ha, hb, h => by
    have ca := List.pairwise_cons.1 ha
    have cb := List.pairwise_cons.1 hb
    have exy : x = y := by
      rcases List.mem_cons.1 ((h x).1 (by simp)) with e | h1
      · exact e
      · rcases List.mem_cons.1 ((h y).2 (by simp)) with e | h2
        · exact e.symm
        · have := kl_trans (cb.1 x h1) (ca.1 y h2); rw [kl_irr] at this; cases this
    subst exy
    rw [srt_ext ca.2 cb.2 fun z => ⟨fun hz => ?_, fun hz => ?_⟩]
    · rcases List.mem_cons.1 ((h z).1 (by simp [hz])) with rfl | h1
      · exact absurd rfl (kl_ne (ca.1 z hz))
      · exact h1
    · rcases List.mem_cons.1 ((h z).2 (by simp [hz])) with rfl | h1
      · exact absurd rfl (kl_ne (cb.1 z hz))
      · exact h1
theorem rlist_perm {p W : List Lf} (hp : p.Perm W) (ho : ok256 W) (hs : Srt W) : ok256 p ∧ rlist p = W := by
  have hop : ok256 p := fun y hy => ho y (hp.mem_iff.1 hy)
  refine ⟨hop, srt_ext (rlist_spec hop).2 hs fun z => ?_⟩
  rw [mem_rlist ((hp.pairwise_iff fun h => h.symm).2 (srt_unl hs)), hp.mem_iff]
theorem rlist_self {W : List Lf} (ho : ok256 W) (hs : Srt W) : rlist W = W := (rlist_perm (List.Perm.refl _) ho hs).2
end Go.Proofs.YtndnlbinnhdmbaaDoor
