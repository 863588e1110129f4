/- Trees, the plain law: the tree of a list in order; a leaf put into it; its leaves. No conditions. -/
import Derived.Test.YtndnlbinnhdmbaaDoorTsM
set_option linter.unusedSimpArgs false
set_option linter.unusedVariables false
namespace Go.Proofs.YtndnlbinnhdmbaaDoor
/-- the tree of a list, from a depth on -/
def can : Nat → List Lf → Nat → TR
  | _, [], _ => .nil
  | _, [x], _ => .leaf x.1 x.2
  | 0, x :: _ :: _, _ => .leaf x.1 x.2
  | f + 1, x :: y :: r, d => .node d (can f (rside (x :: y :: r) d 0) (d + 1)) (can f (rside (x :: y :: r) d 1) (d + 1))
theorem can_nil (f d : Nat) : can f [] d = .nil := by cases f <;> rfl
theorem can_one (f d : Nat) (x : Lf) : can f [x] d = .leaf x.1 x.2 := by cases f <;> rfl
theorem can_two {f d : Nat} {ws : List Lf} (h : 2 ≤ ws.length) : can (f + 1) ws d = .node d (can f (rside ws d 0) (d + 1)) (can f (rside ws d 1) (d + 1)) := by
  match ws, h with
  | x :: y :: r, _ => rfl
/-- they begin alike -/
def Pre (ws : List Lf) (d : Nat) : Prop := ∀ y ∈ ws, ∀ z ∈ ws, ∀ i, i < d → kb y.1 i = kb z.1 i
theorem mem_rside {y : Lf} {ws : List Lf} {d b : Nat} : y ∈ rside ws d b ↔ y ∈ ws ∧ kb y.1 d = b := by unfold rside; simp
theorem rside_cons (y : Lf) (q : List Lf) (d b : Nat) : rside (y :: q) d b = if kb y.1 d = b then y :: rside q d b else rside q d b := by unfold rside; rw [List.filter_cons]; simp
theorem pre_side {ws : List Lf} {d b : Nat} (h : Pre ws d) : Pre (rside ws d b) (d + 1) := fun y hy z hz i hi => by
  obtain ⟨y1, y2⟩ := mem_rside.1 hy
  obtain ⟨z1, z2⟩ := mem_rside.1 hz
  rcases Nat.lt_succ_iff_lt_or_eq.1 hi with hi | rfl
  · exact h y y1 z z1 i hi
  · rw [y2, z2]
theorem ok_side {ws : List Lf} {d b : Nat} (h : ok256 ws) : ok256 (rside ws d b) := fun y hy => h y (mem_rside.1 hy).1
theorem srt_side {ws : List Lf} {d b : Nat} (h : Srt ws) : Srt (rside ws d b) := srt_filter _ h
theorem no_256 {x y : Lf} {r : List Lf} (hs : Srt (x :: y :: r)) (hp : Pre (x :: y :: r) 256) : False := by
  have h1 := (List.pairwise_cons.1 hs).1 y (by simp)
  obtain ⟨h2, _⟩ := kl_iff.1 h1
  exact (kcom_spec x.1 y.1).2 h2 (hp x (by simp) y (by simp) _ h2)
def wrapT (K d : Nat) (T : TR) : TR := if kb K d = 0 then .node d T .nil else .node d .nil T
theorem chain_out {K d : Nat} : ∀ (m : Nat) (T : TR), d < m → chain K d m T = wrapT K d (chain K (d + 1) m T)
  | 0, _, h => by omega
  | m + 1, T, h => by
    rw [chain_1 (by omega)]
    rcases Nat.lt_or_ge d m with h1 | h1
    · rw [chain_1 (show d + 1 ≤ m by omega)]
      exact chain_out m _ h1
    · obtain rfl : m = d := by omega
      rw [chain_0 (Nat.le_refl _), chain_0 (Nat.le_refl _)]; rfl
theorem can_pair {a b : Lf} (hk : kl a.1 b.1 = true) : ∀ (f d : Nat), f + d = 256 → d ≤ kcom (byt a.1) (byt b.1) → can f [a, b] d = chain a.1 d (kcom (byt a.1) (byt b.1)) (.node (kcom (byt a.1) (byt b.1)) (.leaf a.1 a.2) (.leaf b.1 b.2))
  | 0, d, h, hd => by have := (kl_iff.1 hk).1; omega
  | f + 1, d, h, hd => by
    obtain ⟨h1, h2⟩ := kl_iff.1 hk
    have h3 := kl_bit hk
    have h4 := (kcom_spec a.1 b.1).1
    rw [can_two (by simp)]
    rcases Nat.lt_or_ge d (kcom (byt a.1) (byt b.1)) with h5 | h5
    · have h6 := h4 d h5
      rw [chain_out _ _ h5, ← can_pair hk f (d + 1) (by omega) h5]
      have hb := kb_le a.1 d
      unfold wrapT
      simp only [rside_cons, ← h6]
      rcases Nat.lt_or_ge 0 (kb a.1 d) with hz | hz
      · have e : kb a.1 d = 1 := by omega
        rw [e]; simp [rside, can_nil]
      · have e : kb a.1 d = 0 := by omega
        rw [e]; simp [rside, can_nil]
    · obtain rfl : d = kcom (byt a.1) (byt b.1) := by omega
      rw [chain_0 (Nat.le_refl _)]
      simp only [rside_cons, h2, h3]
      simp [rside, can_one]
theorem part_can {a b : Lf} (hk : kl a.1 b.1 = true) {f d : Nat} (h : f + d = 256) (hd : d ≤ kcom (byt a.1) (byt b.1)) : partT a.1 a.2 b.1 b.2 d = can f [a, b] d ∧ partT b.1 b.2 a.1 a.2 d = can f [a, b] d := by
  obtain ⟨h1, h2⟩ := kl_iff.1 hk
  have h3 := kl_bit hk
  rw [can_pair hk f d h hd]
  unfold partT
  rw [kcom_symm b.1 a.1, if_neg (by rw [h2]; decide), if_pos h3]
  exact ⟨rfl, rfl⟩
theorem pre_kcom {a b : Lf} {ws : List Lf} {d : Nat} (hd : d ≤ 256) (h : Pre ws d) (ha : a ∈ ws) (hb : b ∈ ws) : d ≤ kcom (byt a.1) (byt b.1) := by
  rcases Nat.lt_or_ge (kcom (byt a.1) (byt b.1)) d with h1 | h1
  · exact absurd (h a ha b hb _ h1) ((kcom_spec a.1 b.1).2 (by omega))
  · exact h1
theorem rput_two {x : Lf} {ws : List Lf} (hx : x.1 < 2 ^ 256) (ho : ok256 ws) (hs : Srt ws) (h : 2 ≤ ws.length) : 2 ≤ (rput ws x).length := by
  match ws, h with
  | y :: z :: r, _ =>
    cases hk : kl y.1 x.1 with
    | true =>
      rw [rput_lt hk]
      cases hq : rput (z :: r) x with
      | nil =>
        cases hk2 : kl z.1 x.1 with
        | true => rw [rput_lt hk2] at hq; cases hq
        | false => rw [rput_ge hk2] at hq; cases hq
      | cons u q => simp
    | false =>
      rw [rput_ge hk]
      by_cases e : y.1 = x.1
      · have hc := (List.pairwise_cons.1 hs).1
        rw [if_pos e, filter_ne fun u hu => by rw [← e]; exact hc u hu]; simp
      · rw [if_neg e]; simp
theorem put_can (x : Lf) (hx : x.1 < 2 ^ 256) : ∀ (f d : Nat) (ws : List Lf), f + d = 256 → ok256 ws → Srt ws → Pre (x :: ws) d → putT x.1 x.2 (can f ws d) d = can f (rput ws x) d := by
  intro f
  induction f with
  | zero =>
    intro d ws hd ho hs hp
    obtain rfl : d = 256 := by omega
    match ws with
    | [] => rw [can_nil, show rput [] x = [x] from rfl, can_one]; rfl
    | [y] =>
      rw [can_one]
      have e : y.1 = x.1 := byt_inj (ho y (by simp)).1 hx fun j hj => by
        have h0 : kcom (byt y.1) (byt x.1) = 256 := by
          have := pre_kcom (a := y) (b := x) (Nat.le_refl _) hp (by simp) (by simp); have := kcom_le (byt y.1) (byt x.1); omega
        rcases Nat.lt_or_ge (kcom (byt y.1) (byt x.1)) 256 with h | h
        · omega
        · by_cases e : y.1 = x.1
          · rw [e]
          · exact absurd (kcom_lt (ho y (by simp)).1 hx e) (by omega)
      rw [rput_ge (by rw [e]; exact kl_irr _), if_pos e]
      show (if y.1 = x.1 then TR.leaf x.1 x.2 else _) = can 0 [x] 256
      rw [if_pos e]; rfl
    | y :: z :: r => exact (no_256 hs fun u hu v hv => hp u (List.mem_cons_of_mem _ hu) v (List.mem_cons_of_mem _ hv)).elim
  | succ f ih =>
    intro d ws hd ho hs hp
    match ws, ho, hs, hp with
    | [], _, _, _ => rw [can_nil, show rput [] x = [x] from rfl, can_one]; rfl
    | [y], ho, hs, hp =>
      rw [can_one]
      show (if y.1 = x.1 then TR.leaf x.1 x.2 else partT y.1 y.2 x.1 x.2 d) = _
      by_cases e : y.1 = x.1
      · rw [if_pos e, rput_ge (by rw [e]; exact kl_irr _), if_pos e]
        exact (can_one _ _ x).symm
      · rw [if_neg e]
        cases hk : kl y.1 x.1 with
        | true =>
          rw [rput_lt hk]
          exact (part_can hk hd (pre_kcom (by omega) hp (by simp) (by simp))).1
        | false =>
          rw [rput_ge hk, if_neg e]
          have hk2 := kl_total (ho y (by simp)).1 hx e hk
          exact (part_can hk2 hd (pre_kcom (by omega) hp (by simp) (by simp))).2
    | y :: z :: r, ho, hs, hp =>
      have h2 := rput_two hx ho hs (by simp)
      rw [can_two (by simp), can_two h2, rside_rput hx ho hs, rside_rput hx ho hs]
      have hb := kb_le x.1 d
      have hpw : Pre (y :: z :: r) d := fun u hu v hv => hp u (List.mem_cons_of_mem _ hu) v (List.mem_cons_of_mem _ hv)
      have hps : ∀ b, kb x.1 d = b → Pre (x :: rside (y :: z :: r) d b) (d + 1) := fun b hb u hu v hv => by
        refine pre_side (b := b) hp u ?_ v ?_
        · rcases List.mem_cons.1 hu with rfl | hu
          · exact mem_rside.2 ⟨by simp, hb⟩
          · exact mem_rside.2 ⟨List.mem_cons_of_mem _ (mem_rside.1 hu).1, (mem_rside.1 hu).2⟩
        · rcases List.mem_cons.1 hv with rfl | hv
          · exact mem_rside.2 ⟨by simp, hb⟩
          · exact mem_rside.2 ⟨List.mem_cons_of_mem _ (mem_rside.1 hv).1, (mem_rside.1 hv).2⟩
      show (if kb x.1 d = 0 then TR.node d (putT x.1 x.2 (can f (rside (y :: z :: r) d 0) (d + 1)) (d + 1)) _ else TR.node d _ (putT x.1 x.2 (can f (rside (y :: z :: r) d 1) (d + 1)) (d + 1))) = _
      rcases Nat.lt_or_ge 0 (kb x.1 d) with h0 | h0
      · have e : kb x.1 d = 1 := by omega
        rw [if_neg (by omega), if_neg (by omega), if_pos e, ih (d + 1) _ (by omega) (ok_side ho) (srt_side hs) (hps 1 e)]
      · have e : kb x.1 d = 0 := by omega
        rw [if_pos e, if_pos e, if_neg (by omega), ih (d + 1) _ (by omega) (ok_side ho) (srt_side hs) (hps 0 e)]
theorem pre_0 (ws : List Lf) : Pre ws 0 := fun _ _ _ _ i hi => absurd hi (Nat.not_lt_zero i)
/-- the tree of leaves is that of the list -/
theorem ofT_can {ls : List Lf} (h : ok256 ls) : ofT ls = can 256 (rlist ls) 0 := by
  unfold ofT rlist
  have : ∀ (ls acc : List Lf), ok256 ls → ok256 acc → Srt acc → ls.foldl (fun T x => putT x.1 x.2 T 0) (can 256 acc 0) = can 256 (ls.foldl rput acc) 0 := by
    intro ls
    induction ls with
    | nil => intro acc _ _ _; rfl
    | cons x r ih =>
      intro acc ho h1 h2
      have hx := ho x (by simp)
      show r.foldl _ (putT x.1 x.2 (can 256 acc 0) 0) = _
      rw [put_can x hx.1 256 0 acc rfl h1 h2 (pre_0 _)]
      exact ih (rput acc x) (fun z hz => ho z (by simp [hz])) (rput_ok h1 hx) (rput_srt hx.1 h1 h2)
  have h0 := this ls [] h (fun z hz => by cases hz) .nil
  rw [can_nil] at h0
  exact h0
/-! ### The leaves of a tree -/
def lvs : TR → List Lf
  | .nil => []
  | .leaf k v => [(k, v)]
  | .node _ l r => lvs l ++ lvs r
theorem parts_eq {p : Lf → Bool} : ∀ {l : List Lf}, l.Pairwise (fun a b => p b = true → p a = true) → l.filter p ++ l.filter (fun x => !p x) = l
  | [], _ => rfl
  | x :: r, h => by
    have hc := List.pairwise_cons.1 h
    rw [List.filter_cons, List.filter_cons]
    cases hx : p x with
    | true => simp [parts_eq hc.2]
    | false =>
      have h0 : ∀ y ∈ r, p y = false := fun y hy => by
        cases hy' : p y with
        | false => rfl
        | true => rw [hc.1 y hy hy'] at hx; cases hx
      have e1 : r.filter p = [] := List.filter_eq_nil_iff.2 fun y hy => by rw [h0 y hy]; decide
      have e2 : r.filter (fun x => !p x) = r := List.filter_eq_self.2 fun y hy => by rw [h0 y hy]; rfl
      simp [e1, e2]
theorem sides_eq {ws : List Lf} {d : Nat} (hd : d < 256) (hs : Srt ws) (hp : Pre ws d) : rside ws d 0 ++ rside ws d 1 = ws := by
  have e : rside ws d 1 = ws.filter fun x => !decide (kb x.1 d = 0) := by
    unfold rside
    apply List.filter_congr
    intro x _
    have := kb_le x.1 d
    rw [Bool.eq_iff_iff]; simp; omega
  rw [e]
  refine parts_eq (p := fun x => decide (kb x.1 d = 0)) ?_
  refine List.Pairwise.imp_of_mem (fun {a b} ha hb hab h => ?_) hs
  simp only [decide_eq_true_eq] at h ⊢
  obtain ⟨h1, h2⟩ := kl_iff.1 hab
  have h3 := pre_kcom (Nat.le_of_lt hd) hp ha hb
  rcases Nat.lt_or_ge d (kcom (byt a.1) (byt b.1)) with h4 | h4
  · rw [(kcom_spec a.1 b.1).1 d h4, h]
  · obtain rfl : d = kcom (byt a.1) (byt b.1) := by omega
    exact h2
theorem lvs_can : ∀ (f d : Nat) (ws : List Lf), f + d = 256 → Srt ws → Pre ws d → lvs (can f ws d) = ws
  | f, d, [], _, _, _ => by rw [can_nil]; rfl
  | f, d, [x], _, _, _ => by rw [can_one]; rfl
  | 0, d, x :: y :: r, hd, hs, hp => by
    obtain rfl : d = 256 := by omega
    exact (no_256 hs hp).elim
  | f + 1, d, x :: y :: r, hd, hs, hp => by
    rw [can_two (by simp)]
    show lvs _ ++ lvs _ = _
    rw [lvs_can f (d + 1) _ (by omega) (srt_side hs) (pre_side hp), lvs_can f (d + 1) _ (by omega) (srt_side hs) (pre_side hp)]
    exact sides_eq (by omega) hs hp
/-! ### Lists, step by step -/
theorem rputF_len (x : Lf) : ∀ (d : Bool) (l : List Lf), (rputF x d l).length ≤ l.length + 1
  | d, [] => by cases d <;> simp [rputF]
  | true, y :: r => by rw [rputF_done]; exact Nat.le_trans (List.length_filter_le _ _) (Nat.le_succ _)
  | false, y :: r => by
    have h := rputF_len x (!kl y.1 x.1) r
    have h2 : (rputF x true r).length ≤ r.length := by rw [rputF_done]; exact List.length_filter_le _ _
    show ((if false = false ∧ kl y.1 x.1 = false then [x] else []) ++ ((if y.1 = x.1 then [] else [y]) ++ rputF x (false || !kl y.1 x.1) r)).length ≤ r.length + 1 + 1
    cases hk : kl y.1 x.1 with
    | true =>
      rw [hk] at h
      simp only [List.length_append, Bool.false_or, Bool.not_true] at h ⊢
      rw [if_neg (by decide)]
      split <;> simp <;> omega
    | false =>
      simp only [List.length_append, Bool.false_or, Bool.not_false]
      rw [if_pos (by decide)]
      split <;> simp <;> omega
theorem rput_len (l : List Lf) (x : Lf) : (rput l x).length ≤ l.length + 1 := rputF_len x false l
theorem rlist_len (ls : List Lf) : (rlist ls).length ≤ ls.length := by
  unfold rlist
  have : ∀ (ls acc : List Lf), (ls.foldl rput acc).length ≤ acc.length + ls.length := by
    intro ls
    induction ls with
    | nil => intro acc; exact Nat.le_refl _
    | cons x r ih => intro acc; have := ih (rput acc x); have := rput_len acc x; show (r.foldl rput (rput acc x)).length ≤ _; rw [List.length_cons]; omega
  have := this ls []
  simpa using this
theorem take_min' (ls : List Lf) (n : Nat) : ls.take (min ls.length n) = ls.take n := by
  rcases Nat.le_total ls.length n with h | h
  · rw [Nat.min_eq_left h, List.take_length, List.take_of_length_le h]
  · rw [Nat.min_eq_right h]
theorem take_eq_succ {a b : List Lf} {i : Nat} {x y : Lf} (h : a.take i = b.take i) (hx : a[i]? = some x) (hy : b[i]? = some y) (e : x = y) : a.take (i + 1) = b.take (i + 1) := by
  rw [List.take_add_one, List.take_add_one, hx, hy, h, e]
theorem take_ne {a b : List Lf} {i : Nat} {x y : Lf} (hx : a[i]? = some x) (hy : b[i]? = some y) (e : ¬ x = y) : ¬ a = b := fun h => by
  subst h; rw [hx] at hy; exact e (Option.some.inj hy)
end Go.Proofs.YtndnlbinnhdmbaaDoor
