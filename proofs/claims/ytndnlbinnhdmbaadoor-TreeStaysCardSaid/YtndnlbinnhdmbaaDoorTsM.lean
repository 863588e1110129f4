/- Trees, the plain law: the tree of leaves is that of the leaves in order, however they are put. No conditions. -/
import Derived.Test.YtndnlbinnhdmbaaDoorTsG
set_option linter.unusedSimpArgs false
set_option linter.unusedVariables false
namespace Go.Proofs.YtndnlbinnhdmbaaDoor
/-- the document's order -/
def kl (a b : Nat) : Bool := kless (byt a) (byt b)
theorem kb_kbit {a b i : Nat} (h : i < 256) : kb a i = kb b i ↔ kbit (byt a) i = kbit (byt b) i := by
  rw [← kb_cast h, ← kb_cast h]; omega
theorem kcom_spec (a b : Nat) : (∀ i, i < kcom (byt a) (byt b) → kb a i = kb b i) ∧ (kcom (byt a) (byt b) < 256 → kb a (kcom (byt a) (byt b)) ≠ kb b (kcom (byt a) (byt b))) := by
  have key : ∀ n i, n + i = 256 → (∀ j, j < i → kb a j = kb b j) → (∀ j, j < kcomF (byt a) (byt b) (256 - i) i → kb a j = kb b j) ∧ (kcomF (byt a) (byt b) (256 - i) i < 256 → kb a (kcomF (byt a) (byt b) (256 - i) i) ≠ kb b (kcomF (byt a) (byt b) (256 - i) i)) := by
    intro n
    induction n with
    | zero =>
      intro i hi h
      obtain rfl : i = 256 := by omega
      exact ⟨h, fun h1 => absurd h1 (by show ¬ 256 < 256; omega)⟩
    | succ n ih =>
      intro i hi h
      rw [kcom_step (by omega)]
      split
      · rename_i he
        exact ih (i + 1) (by omega) fun j hj => by
          rcases Nat.lt_succ_iff_lt_or_eq.1 hj with hj | rfl
          · exact h j hj
          · exact (kb_kbit (by omega)).2 he
      · rename_i he
        exact ⟨h, fun h1 => fun h2 => he ((kb_kbit h1).1 h2)⟩
  exact key 256 0 rfl (fun j hj => absurd hj (Nat.not_lt_zero _))
theorem kcom_eq {a b m : Nat} (hm : m ≤ 256) (hlt : ∀ i, i < m → kb a i = kb b i) (he : m < 256 → kb a m ≠ kb b m) : kcom (byt a) (byt b) = m :=
  kcom_at hm (fun i hi => (kb_kbit (by omega)).1 (hlt i hi)) fun h => fun h2 => he h ((kb_kbit h).2 h2)
theorem kcom_symm (a b : Nat) : kcom (byt a) (byt b) = kcom (byt b) (byt a) := by
  obtain ⟨h1, h2⟩ := kcom_spec b a
  exact kcom_eq (kcom_le _ _) (fun i hi => (h1 i hi).symm) fun h => (h2 h).symm
theorem kl_iff {a b : Nat} : kl a b = true ↔ kcom (byt a) (byt b) < 256 ∧ kb a (kcom (byt a) (byt b)) = 0 := by
  unfold kl kless
  simp only [Bool.and_eq_true, decide_eq_true_eq]
  constructor
  · rintro ⟨h1, h2⟩; exact ⟨h1, by have := kb_cast (k := a) h1; omega⟩
  · rintro ⟨h1, h2⟩; exact ⟨h1, by have := kb_cast (k := a) h1; omega⟩
theorem kl_bit {a b : Nat} (h : kl a b = true) : kb b (kcom (byt a) (byt b)) = 1 := by
  obtain ⟨h1, h2⟩ := kl_iff.1 h
  have h3 := (kcom_spec a b).2 h1
  have := kb_le b (kcom (byt a) (byt b))
  omega
theorem kl_irr (a : Nat) : kl a a = false := by
  cases h : kl a a with
  | false => rfl
  | true => have h1 := kl_iff.1 h; exact absurd rfl ((kcom_spec a a).2 h1.1)
theorem kl_trans {a b c : Nat} (h1 : kl a b = true) (h2 : kl b c = true) : kl a c = true := by
  obtain ⟨p1, p2⟩ := kl_iff.1 h1
  obtain ⟨q1, q2⟩ := kl_iff.1 h2
  have p3 := kl_bit h1
  have q3 := kl_bit h2
  have sa := (kcom_spec a b).1
  have sb := (kcom_spec b c).1
  generalize kcom (byt a) (byt b) = m at *
  generalize kcom (byt b) (byt c) = n at *
  rcases Nat.lt_trichotomy m n with h | h | h
  · have e : kcom (byt a) (byt c) = m := kcom_eq (by omega) (fun i hi => (sa i hi).trans (sb i (by omega))) fun _ => by rw [p2, ← sb m h, p3]; decide
    exact kl_iff.2 (by rw [e]; exact ⟨p1, p2⟩)
  · subst h; omega
  · have e : kcom (byt a) (byt c) = n := kcom_eq (by omega) (fun i hi => (sa i (by omega)).trans (sb i hi)) fun _ => by rw [sa n h, q2, q3]; decide
    exact kl_iff.2 (by rw [e]; exact ⟨q1, by rw [sa n h, q2]⟩)
theorem kl_total {a b : Nat} (ha : a < 2 ^ 256) (hb : b < 2 ^ 256) (hne : a ≠ b) (h : kl a b = false) : kl b a = true := by
  have h1 := kcom_lt ha hb hne
  have h2 := (kcom_spec a b).2 h1
  have h3 : kb a (kcom (byt a) (byt b)) ≠ 0 := fun e => by rw [kl_iff.2 ⟨h1, e⟩] at h; cases h
  have h4 := kb_le a (kcom (byt a) (byt b))
  have h5 := kb_le b (kcom (byt a) (byt b))
  have h6 : kb b (kcom (byt a) (byt b)) = 0 := by omega
  exact kl_iff.2 (by rw [kcom_symm b a]; exact ⟨h1, h6⟩)
/-! ### Lists of leaves, by the document -/
abbrev Lf := Nat × Nat
def rputF (x : Lf) : Bool → List Lf → List Lf
  | done, [] => if done = true then [] else [x]
  | done, y :: r => (if done = false ∧ kl y.1 x.1 = false then [x] else []) ++ ((if y.1 = x.1 then [] else [y]) ++ rputF x (done || !kl y.1 x.1) r)
def rput (l : List Lf) (x : Lf) : List Lf := rputF x false l
def rlist (ls : List Lf) : List Lf := ls.foldl rput []
def rside (l : List Lf) (d b : Nat) : List Lf := l.filter fun y => decide (kb y.1 d = b)
/-- in order, each key once -/
def Srt (l : List Lf) : Prop := l.Pairwise (fun a b => kl a.1 b.1 = true)
def ok256 (l : List Lf) : Prop := ∀ y ∈ l, y.1 < 2 ^ 256 ∧ y.2 < 2 ^ 256
theorem rputF_done (x : Lf) : ∀ l : List Lf, rputF x true l = l.filter fun y => decide (y.1 ≠ x.1)
  | [] => rfl
  | y :: r => by
    show ([] : List Lf) ++ ((if y.1 = x.1 then [] else [y]) ++ rputF x true r) = _
    rw [rputF_done x r, List.filter_cons]
    by_cases h : y.1 = x.1
    · rw [if_pos h, if_neg (by simp [h])]; rfl
    · rw [if_neg h, if_pos (by simp [h])]; rfl
theorem rput_lt {x y : Lf} {r : List Lf} (h : kl y.1 x.1 = true) : rput (y :: r) x = y :: rput r x := by
  have hne : y.1 ≠ x.1 := fun e => by rw [e, kl_irr] at h; cases h
  show rputF x false (y :: r) = y :: rputF x false r
  simp [rputF, h, hne]
theorem rput_ge {x y : Lf} {r : List Lf} (h : kl y.1 x.1 = false) : rput (y :: r) x = x :: (if y.1 = x.1 then [] else [y]) ++ r.filter fun z => decide (z.1 ≠ x.1) := by
  show (if (false = false ∧ kl y.1 x.1 = false) then [x] else []) ++ ((if y.1 = x.1 then [] else [y]) ++ rputF x (false || !kl y.1 x.1) r) = _
  rw [if_pos ⟨rfl, h⟩, h]
  show [x] ++ (_ ++ rputF x true r) = _
  rw [rputF_done]; simp
theorem srt_filter {l : List Lf} (p : Lf → Bool) (h : Srt l) : Srt (l.filter p) := List.Pairwise.filter p h
theorem mem_rput {x z : Lf} : ∀ {l : List Lf}, z ∈ rput l x → z = x ∨ z ∈ l
  | [], h => by rw [show rput [] x = [x] from rfl] at h; exact .inl (List.mem_singleton.1 h)
  | y :: r, h => by
    cases hk : kl y.1 x.1 with
    | true =>
      rw [rput_lt hk] at h
      rcases List.mem_cons.1 h with rfl | h
      · exact .inr (by simp)
      · rcases mem_rput h with h | h
        · exact .inl h
        · exact .inr (by simp [h])
    | false =>
      rw [rput_ge hk] at h
      simp only [List.cons_append, List.mem_cons, List.mem_append, List.mem_filter] at h
      rcases h with h | h | h
      · exact .inl h
      · split at h
        · cases h
        · exact .inr (by simp at h; simp [h])
      · exact .inr (by simp [h.1])
theorem rput_ok {l : List Lf} {x : Lf} (h : ok256 l) (hx : x.1 < 2 ^ 256 ∧ x.2 < 2 ^ 256) : ok256 (rput l x) := fun z hz => by
  rcases mem_rput hz with rfl | hz
  · exact hx
  · exact h z hz
theorem rput_srt {x : Lf} (hx : x.1 < 2 ^ 256) : ∀ {l : List Lf}, ok256 l → Srt l → Srt (rput l x)
  | [], _, _ => by show Srt [x]; exact List.pairwise_singleton _ _
  | y :: r, ho, hs => by
    have hc := List.pairwise_cons.1 hs
    have hy := ho y (by simp)
    cases hk : kl y.1 x.1 with
    | true =>
      rw [rput_lt hk]
      refine List.pairwise_cons.2 ⟨fun z hz => ?_, rput_srt hx (fun z hz => ho z (by simp [hz])) hc.2⟩
      rcases mem_rput hz with rfl | hz
      · exact hk
      · exact hc.1 z hz
    | false =>
      rw [rput_ge hk]
      have hxy : y.1 = x.1 ∨ kl x.1 y.1 = true := by
        by_cases e : y.1 = x.1
        · exact .inl e
        · exact .inr (kl_total hy.1 hx e hk)
      have hall : ∀ z ∈ r, kl x.1 z.1 = true := fun z hz => by
        rcases hxy with e | e
        · rw [← e]; exact hc.1 z hz
        · exact kl_trans e (hc.1 z hz)
      rw [List.cons_append]
      refine List.pairwise_cons.2 ⟨fun z hz => ?_, ?_⟩
      · rcases List.mem_append.1 hz with hz | hz
        · split at hz
          · cases hz
          · rename_i e; rw [List.mem_singleton.1 hz]; exact hxy.resolve_left e
        · exact hall z (List.mem_filter.1 hz).1
      · split
        · exact srt_filter _ hc.2
        · refine List.pairwise_cons.2 ⟨fun z hz => hc.1 z (List.mem_filter.1 hz).1, srt_filter _ hc.2⟩
theorem rlist_spec {ls : List Lf} (h : ok256 ls) : ok256 (rlist ls) ∧ Srt (rlist ls) := by
  unfold rlist
  have : ∀ (ls acc : List Lf), ok256 ls → ok256 acc → Srt acc → ok256 (ls.foldl rput acc) ∧ Srt (ls.foldl rput acc) := by
    intro ls
    induction ls with
    | nil => intro acc _ h1 h2; exact ⟨h1, h2⟩
    | cons x r ih =>
      intro acc ho h1 h2
      have hx := ho x (by simp)
      exact ih (rput acc x) (fun z hz => ho z (by simp [hz])) (rput_ok h1 hx) (rput_srt hx.1 h1 h2)
  exact this ls [] h (fun z hz => by cases hz) .nil
theorem filter_ne {x : Lf} {l : List Lf} (h : ∀ z ∈ l, kl x.1 z.1 = true) : (l.filter fun z => decide (z.1 ≠ x.1)) = l := by
  rw [List.filter_eq_self]
  intro z hz
  have := h z hz
  simp only [decide_eq_true_eq]
  intro e; rw [e, kl_irr] at this; cases this
/-- a leaf is put on its side -/
theorem rside_rput {d b : Nat} {x : Lf} (hx : x.1 < 2 ^ 256) : ∀ {l : List Lf}, ok256 l → Srt l → rside (rput l x) d b = if kb x.1 d = b then rput (rside l d b) x else rside l d b
  | [], _, _ => by
    show rside [x] d b = _
    unfold rside
    by_cases h : kb x.1 d = b
    · rw [if_pos h, List.filter_cons, if_pos (by simp [h])]; rfl
    · rw [if_neg h, List.filter_cons, if_neg (by simp [h])]
  | y :: r, ho, hs => by
    have hc := List.pairwise_cons.1 hs
    have hy := ho y (by simp)
    have hr : ok256 r := fun z hz => ho z (by simp [hz])
    cases hk : kl y.1 x.1 with
    | true =>
      have ih := rside_rput (d := d) (b := b) hx hr hc.2
      rw [rput_lt hk]
      have e : ∀ q : List Lf, rside (y :: q) d b = if kb y.1 d = b then y :: rside q d b else rside q d b := fun q => by unfold rside; rw [List.filter_cons]; simp
      rw [e, e, ih]
      by_cases h1 : kb y.1 d = b
      · rw [if_pos h1, if_pos h1]
        by_cases h2 : kb x.1 d = b
        · rw [if_pos h2, if_pos h2, rput_lt hk]
        · rw [if_neg h2, if_neg h2]
      · rw [if_neg h1, if_neg h1]
    | false =>
      have hxy : y.1 = x.1 ∨ kl x.1 y.1 = true := by
        by_cases e : y.1 = x.1
        · exact .inl e
        · exact .inr (kl_total hy.1 hx e hk)
      have hall : ∀ z ∈ r, kl x.1 z.1 = true := fun z hz => by
        rcases hxy with e | e
        · rw [← e]; exact hc.1 z hz
        · exact kl_trans e (hc.1 z hz)
      have hnl : ∀ z ∈ r, kl z.1 x.1 = false := fun z hz => by
        cases h : kl z.1 x.1 with
        | false => rfl
        | true => have := kl_trans h (hall z hz); rw [kl_irr] at this; cases this
      rw [rput_ge hk, filter_ne hall]
      have hput : ∀ q : List Lf, (∀ z ∈ q, z ∈ r) → rput q x = x :: q := fun q hq => by
        cases q with
        | nil => rfl
        | cons z q =>
          have hz := hq z (by simp)
          rw [rput_ge (hnl z hz), filter_ne fun u hu => hall u (hq u (by simp [hu])), if_neg (fun e => by have := hall z hz; rw [e, kl_irr] at this; cases this)]
          rfl
      unfold rside
      by_cases hb : kb x.1 d = b
      · rw [if_pos hb, List.cons_append, List.filter_cons, if_pos (by simp [hb])]
        by_cases e : y.1 = x.1
        · rw [if_pos e, List.nil_append, List.filter_cons, if_pos (by simp [e, hb])]
          rw [rput_ge hk, if_pos e, filter_ne fun z hz => hall z (List.mem_filter.1 hz).1]
          rfl
        · rw [if_neg e, List.singleton_append, List.filter_cons]
          by_cases h1 : kb y.1 d = b
          · rw [if_pos (by simp [h1]), rput_ge hk, if_neg e, filter_ne fun z hz => hall z (List.mem_filter.1 hz).1]
            rfl
          · rw [if_neg (by simp [h1]), hput _ fun z hz => (List.mem_filter.1 hz).1]
      · rw [if_neg hb, List.cons_append, List.filter_cons, if_neg (by simp [hb])]
        by_cases e : y.1 = x.1
        · rw [if_pos e, List.nil_append, List.filter_cons, if_neg (by simp [e, hb])]
        · rw [if_neg e]; rfl
end Go.Proofs.YtndnlbinnhdmbaaDoor
