/- wire's reader: rows of versions and of marks, what they are; a call that leaves a new fact. No conditions. -/
import Derived.Test.YtlbgelbhhibikaaYe
set_option linter.unusedSimpArgs false
set_option linter.unusedVariables false
namespace Go.Proofs.Ytlbgelbhhibikaa.SH
variable {F : List Nat} {w W : World} {H : List As} {i : Nat}
/-- a fact about what is apart from all that may turn -/
theorem addq {f : List Nat} {K : World → Prop} (h : SH F w W H) (hz : (As.p f K).holds W) (hf : ∀ y ∈ H, y.mv = true → ∀ k ∈ y.foot, k ∉ f) : SH F w W (.p f K :: H) := by
  refine ⟨h.off, fun y hy => ?_, List.pairwise_cons.2 ⟨fun y hy => ⟨fun h => by (cases h), fun hm k hk => hf y hy hm k hk⟩, h.ap⟩, fun y hy hm k hk hlt => ?_⟩
  · rcases List.mem_cons.1 hy with rfl | hy
    · exact hz
    · exact h.all y hy
  · rcases List.mem_cons.1 hy with rfl | hy
    · cases hm
    · exact h.old y hy hm k hk hlt
/-- bytes that are read go into a fact -/
theorem intq {f f' : List Nat} {K K' : World → Prop} {u : Value} {l : List UInt8} (h : SH F w W (.s u l :: .p f K :: H)) (hf : ∀ k ∈ f', sb u l = some k ∨ k ∈ f) (hK : K W → Sl W u l → (As.p f' K').holds W) : SH F w W (.p f' K' :: H) := by
  have h1 := h.ap
  rw [List.pairwise_cons, List.pairwise_cons] at h1
  refine addq h.tl.tl (hK (h.pp (i := 1) rfl) (h.sl (i := 0) rfl)) fun y hy hm k hk hk' => ?_
  rcases hf k hk' with h2 | h2
  · exact (h1.1 y (List.mem_cons_of_mem _ hy)).2 hm k hk (by show k ∈ (sb u l).toList; rw [h2]; simp)
  · exact (h1.2.1 y hy).2 hm k hk h2
/-- a new row of bytes lies in new blocks -/
theorem freshO {r p a b : Nat} {u : Value} {l : List UInt8} {cs ds : Array Value} {t t' : TypeId} (h : SH [r, p] w W H) (hi : H[i]? = some (.o u l)) (ha : H[a]? = some (.b r cs t)) (hb : H[b]? = some (.b p ds t')) : ∀ k, sb u l = some k → w.heap.size ≤ k := fun k hk => by
  refine Nat.le_of_not_lt fun hlt => ?_
  have hk' : k ∈ (As.o u l).foot := by show k ∈ u.ownBlock.toList; rw [sb_own hk]; simp
  have h1 := h.old _ (SH.mem hi) rfl k hk' hlt
  have hx : ∀ {q x : Nat} {es : Array Value} {s : TypeId}, H[x]? = some (.b q es s) → k ≠ q := fun {q x es s} hx e => by
    subst e
    have hn : i ≠ x := fun e => by subst e; rw [hi] at hx; cases hx
    exact (h.ap2 hi hx hn).1 rfl k hk' (by simp [As.foot])
  rcases List.mem_cons.1 h1 with h2 | h2
  · exact hx ha h2
  · exact hx hb (List.mem_singleton.1 h2)
end Go.Proofs.Ytlbgelbhhibikaa.SH
namespace Go.Proofs.Ytlbgelbhhibikaa.Ww
open Go.RowKit
set_option linter.unusedSimpArgs false
/-- what a method of wire's reader leaves, with a new fact -/
def WRetP {α : Type} (r p : Nat) (v : Value) (s : RSt) (bad : Bool) (s2 : RSt) (bad2 : Bool) (V : α → Value) (X : α → List As) (f : α → List Nat) (K : α → World → Prop) (W W' : World) (e : Ending) : Prop :=
  ∃ y v', e = .returned (V y) ∧ SH [r, p] W W' (.p (f y) (K y) :: .s v' s2.1 :: .b r #[.pointer (some ⟨p, 0, none⟩), .bool bad2] 115 :: .b p #[v', .int .i64 s2.2] 141 :: X y) ∧ Sub v' s2.1 (sb v s.1) ∧ ∀ k ∈ f y, W.heap.size ≤ k
/-- such a method, among other things -/
theorem wrcallP {P : Program} {g : FuncId} {args : Array Value} {F : List Nat} {w W : World} {H R : List As} {α : Type} {r p : Nat} {v : Value} {s s2 : RSt} {bad bad2 : Bool} {V : α → Value} {X : α → List As} {f : α → List Nat} {K : α → World → Prop} (I J : List Nat) (hS : SH F w W H)
    (hc : SH [r, p] W W (wrdL r p v s bad) → Calls P g args W fun e W' => WRetP r p v s bad s2 bad2 V X f K W W' e) (ok : ∀ y v', SH.okL [.b r #[.pointer (some ⟨p, 0, none⟩), .bool bad] 115, .b p #[v, .int .i64 s.2] 141] (.s v s.1 :: R) (.b r #[.pointer (some ⟨p, 0, none⟩), .bool bad2] 115 :: .b p #[v', .int .i64 s2.2] 141 :: X y))
    (hI : pk H I = wrdL r p v s bad := by exact rfl) (hJ : pk H J = R := by exact rfl) (hn : (I ++ J).Nodup := by decide) :
    Calls P g args W fun e W' => ∃ x : { y : α × Value // Sub y.2 s2.1 (sb v s.1) ∧ ∀ k ∈ f y.1, w.heap.size ≤ k }, e = .returned (V x.1.1) ∧ SH F w W' (.p (f x.1.1) (K x.1.1) :: .s x.1.2 s2.1 :: .b r #[.pointer (some ⟨p, 0, none⟩), .bool bad2] 115 :: .b p #[x.1.2, .int .i64 s2.2] 141 :: (X x.1.1 ++ R)) := by
  subst hJ
  have h : SH F w W (wrdL r p v s bad ++ pk H J) := hS.pick (I ++ J) (by rw [← hI]; exact pk_app H I J) hn
  refine (hc h.here).mono fun e W' ⟨y, v', h1, h2, h3, h9⟩ => ⟨⟨(y, v'), h3, fun k hk => Nat.le_trans hS.size (h9 k hk)⟩, h1, ?_⟩
  have h4 : SH (SH.feet [.b r #[.pointer (some ⟨p, 0, none⟩), .bool bad] 115, .b p #[v, .int .i64 s.2] 141]) W W' (.b r #[.pointer (some ⟨p, 0, none⟩), .bool bad2] 115 :: .b p #[v', .int .i64 s2.2] 141 :: X y) := h2.tl.tl
  have h5 := SH.frame (L := [.b r #[.pointer (some ⟨p, 0, none⟩), .bool bad] 115, .b p #[v, .int .i64 s.2] 141]) (R := .s v s.1 :: pk H J) h h4 (ok y v')
  have h6 := h5.sub (i := (X y).length + 2) (u := v') (l' := s2.1) (by simp) (h2.sl (i := 1) rfl) h3
  have hp := h2.ap
  rw [List.pairwise_cons] at hp
  refine SH.addq (h6.less ?_) (h2.all _ (List.mem_cons_self ..)) fun z hz hm k hk hk' => ?_
  · refine List.Sublist.cons_cons _ (List.Sublist.cons_cons _ (List.Sublist.cons_cons _ ?_))
    exact (List.Sublist.refl (X y)).append (List.sublist_cons_self _ _)
  · have hz' : z ∈ (.s v' s2.1 :: .b r #[.pointer (some ⟨p, 0, none⟩), .bool bad2] 115 :: .b p #[v', .int .i64 s2.2] 141 :: X y) ∨ z ∈ pk H J := by
      have hz2 : z ∈ (.s v' s2.1 :: .b r #[.pointer (some ⟨p, 0, none⟩), .bool bad2] 115 :: .b p #[v', .int .i64 s2.2] 141 :: X y) ++ pk H J := by simpa using hz
      exact List.mem_append.1 hz2
    rcases hz' with hz' | hz'
    · exact (hp.1 z hz').2 hm k hk hk'
    · have := As.lt (h.all z (List.mem_append.2 (.inr hz'))) k hk
      exact Nat.not_lt.2 (h9 k hk') this
/-- marks that are read -/
def mk1 (s : RSt) : Mrk := ⟨nuV s, suV (tkS 8 s), suV (tkS 32 (tkS 8 s))⟩
def mk1S (s : RSt) : RSt := tkS 32 (tkS 32 (tkS 8 s))
def mksS : Nat → RSt → RSt
  | 0, s => s
  | n + 1, s => mk1S (mksS n s)
def mksV : Nat → RSt → List Mrk
  | 0, _ => []
  | n + 1, s => mk1 s :: mksV n (mk1S s)
theorem mksS_in (n : Nat) (s : RSt) : mksS n (mk1S s) = mksS (n + 1) s := by
  induction n with
  | zero => rfl
  | succ n ih => show mk1S (mksS n (mk1S s)) = _; rw [ih]; rfl
theorem mksV_snoc (n : Nat) (s : RSt) : mksV (n + 1) s = mksV n s ++ [mk1 (mksS n s)] := by
  induction n generalizing s with
  | zero => rfl
  | succ n ih => show mk1 s :: mksV (n + 1) (mk1S s) = _; rw [ih, mksS_in]; rfl
theorem mksV_len (n : Nat) (s : RSt) : (mksV n s).length = n := by
  induction n generalizing s with
  | zero => rfl
  | succ n ih => show (mk1 s :: mksV n (mk1S s)).length = _; rw [List.length_cons, ih]
theorem mk1S_len (s : RSt) : (mk1S s).1.length ≤ s.1.length := Nat.le_trans (tkS_len _ _) (Nat.le_trans (tkS_len _ _) (tkS_len _ _))
theorem mksS_len (n : Nat) (s : RSt) : (mksS n s).1.length ≤ s.1.length := by
  induction n with
  | zero => exact Nat.le_refl _
  | succ n ih => exact Nat.le_trans (mk1S_len _) ih
theorem mks_map (n : Nat) (s : RSt) : (mksV (n + 1) s).map mkC = (mksV n s).map mkC ++ [mkC (mk1 (mksS n s))] := by rw [mksV_snoc, List.map_append]; rfl
/-- versions that are read -/
def en1 (u : Value) (s : RSt) : En := ⟨nuV s, nuV (tkS 8 s), u, txV 64 (tkS 8 (tkS 8 s))⟩
def en1S (s : RSt) : RSt := txS 64 (tkS 8 (tkS 8 s))
def ensS : Nat → RSt → RSt
  | 0, s => s
  | n + 1, s => en1S (ensS n s)
def ensV : List Value → RSt → List En
  | [], _ => []
  | u :: us, s => en1 u s :: ensV us (en1S s)
theorem ensS_in (n : Nat) (s : RSt) : ensS n (en1S s) = ensS (n + 1) s := by
  induction n with
  | zero => rfl
  | succ n ih => show en1S (ensS n (en1S s)) = _; rw [ih]; rfl
theorem ensV_snoc (us : List Value) (u : Value) (s : RSt) : ensV (us ++ [u]) s = ensV us s ++ [en1 u (ensS us.length s)] := by
  induction us generalizing s with
  | nil => rfl
  | cons x us ih => show en1 x s :: ensV (us ++ [u]) (en1S s) = _; rw [ih, ensS_in]; rfl
theorem ensV_len (us : List Value) (s : RSt) : (ensV us s).length = us.length := by
  induction us generalizing s with
  | nil => rfl
  | cons x us ih => show (en1 x s :: ensV us (en1S s)).length = _; rw [List.length_cons, ih, List.length_cons]
theorem en1S_len (s : RSt) : (en1S s).1.length ≤ s.1.length := Nat.le_trans (txS_len _ _) (Nat.le_trans (tkS_len _ _) (tkS_len _ _))
theorem ensS_len (n : Nat) (s : RSt) : (ensS n s).1.length ≤ s.1.length := by
  induction n with
  | zero => exact Nat.le_refl _
  | succ n ih => exact Nat.le_trans (en1S_len _) ih
theorem ens_map (us : List Value) (u : Value) (s : RSt) : (ensV (us ++ [u]) s).map enC = (ensV us s).map enC ++ [enC (en1 u (ensS us.length s))] := by rw [ensV_snoc, List.map_append]; rfl
/-- no versions yet -/
theorem SH.enil {F : List Nat} {w W : World} {H : List As} (h : SH F w W H) : SH F w W (.p (enFt []) (enK []) :: H) := SH.addq h (enK_holds fun y hy => by cases hy) fun _ _ _ _ _ hk => by cases hk
theorem enFt_snoc {us : List Value} {u : Value} {s : RSt} {k : Nat} (h : k ∈ enFt (ensV (us ++ [u]) s)) : sb u (txV 64 (tkS 8 (tkS 8 (ensS us.length s)))) = some k ∨ k ∈ enFt (ensV us s) := by
  rw [ensV_snoc] at h
  obtain ⟨y, hy, h1⟩ := List.mem_flatMap.1 h
  rcases List.mem_append.1 hy with hy | hy
  · exact .inr (List.mem_flatMap.2 ⟨y, hy, h1⟩)
  · rw [List.mem_singleton.1 hy] at h1; exact .inl (As.mem_toList h1)
theorem enK_snoc {us : List Value} {u : Value} {s : RSt} {W : World} (h : enK (ensV us s) W) (hu : Sl W u (txV 64 (tkS 8 (tkS 8 (ensS us.length s))))) : enK (ensV (us ++ [u]) s) W := fun y hy => by
  rw [ensV_snoc] at hy
  rcases List.mem_append.1 hy with hy | hy
  · exact h y hy
  · rw [List.mem_singleton.1 hy]; exact hu
/-- a new version's value goes to the others -/
theorem SH.enadd {r p a b i j : Nat} {us : List Value} {u : Value} {s : RSt} {w W : World} {H R : List As} {cs ds : Array Value} {t t' : TypeId} (J : List Nat) (h : SH [r, p] w W H) (hi : H[i]? = some (.o u (txV 64 (tkS 8 (tkS 8 (ensS us.length s)))))) (hj : H[j]? = some (.p (enFt (ensV us s)) (enK (ensV us s)))) (ha : H[a]? = some (.b r cs t)) (hb : H[b]? = some (.b p ds t'))
    (hf : ∀ k ∈ enFt (ensV us s), w.heap.size ≤ k) (hR : pk (H.set i (.s u (txV 64 (tkS 8 (tkS 8 (ensS us.length s)))))) (i :: j :: J) = .s u (txV 64 (tkS 8 (tkS 8 (ensS us.length s)))) :: .p (enFt (ensV us s)) (enK (ensV us s)) :: R) (hn : (i :: j :: J).Nodup) :
    SH [r, p] w W (.p (enFt (ensV (us ++ [u]) s)) (enK (ensV (us ++ [u]) s)) :: R) ∧ ∀ k ∈ enFt (ensV (us ++ [u]) s), w.heap.size ≤ k := by
  have hfr := SH.freshO h hi ha hb
  have h1 := h.read hi (h.osl hi) sub_refl
  have h2 := h1.pick (i :: j :: J) hR hn
  exact ⟨SH.intq h2 (fun k hk => enFt_snoc hk) fun hK hu => enK_holds (enK_snoc hK hu), fun k hk => (enFt_snoc hk).elim (hfr k) (hf k)⟩
end Go.Proofs.Ytlbgelbhhibikaa.Ww
