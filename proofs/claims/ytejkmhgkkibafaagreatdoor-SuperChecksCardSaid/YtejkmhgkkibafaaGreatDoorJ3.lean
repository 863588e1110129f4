/- Contracts and plain laws that superChecks_holds rests on. Conditions: the variables' cells hold the numbers of the program's text. -/
import Derived.Test.YtejkmhgkkibafaaGreatDoorGc
import Derived.Great.BuildSlice
open Go.RowKit
set_option linter.unusedSimpArgs false
set_option linter.unusedVariables false
namespace Go.Proofs.YtejkmhgkkibafaaGreatDoor
section

inductive Tr where
  | z : Tr
  | q : Nat → Tr → Tr
  | e : Nat → Tr → Tr
  | b : Nat → Tr → Nat → Tr → Tr
  | c : Nat → Tr → Nat → Tr → Nat → Tr → Tr
def Tr.len : Tr → Nat
  | .z => 0
  | .q _ t => t.len + 1
  | .e _ t => t.len + 1
  | .b _ t _ u => max t.len u.len + 1
  | .c _ t _ u _ x => max (max t.len u.len) x.len + 1
def Tr.ok (md : Region.Mode) (ops : Array Oper) : Tr → Array Bool → Bool
  | .z, L => (Region.ready md ops L).isEmpty
  | .q i t, L => (Region.ready md ops L).contains i && Region.free md ops L i && t.ok md ops (L.setIfInBounds i true)
  | .e i t, L => decide (Region.ready md ops L = [i]) && t.ok md ops (L.setIfInBounds i true)
  | .b i t j u, L => decide (Region.ready md ops L = [i, j]) && t.ok md ops (L.setIfInBounds i true) && u.ok md ops (L.setIfInBounds j true)
  | .c i t j u k x, L => decide (Region.ready md ops L = [i, j, k]) && t.ok md ops (L.setIfInBounds i true) && u.ok md ops (L.setIfInBounds j true) && x.ok md ops (L.setIfInBounds k true)
def Nml (K : Act → World → Prop) : Exit → Act → World → Prop
  | .normal, a, w => K a w
  | _, _, _ => False
theorem Z0h {K : Act → World → Prop} (h : LetsOut (Nml K)) : False := by
  obtain ⟨a, w, h⟩ := h
  exact h
theorem Z9x {Q : Exit → Act → World → Prop} : ∀ (e : Exit) (a : Act) (w : World), Nml (Q .normal) e a w → Q e a w := fun e a w h => by
  cases e <;> first | exact h | exact (h : False).elim
section
variable {P : Program} {ops : Array Oper} {md : Region.Mode}
def U0 (P : Program) (ops : Array Oper) (K : Act → World → Prop) : Tr → (World → Prop) → Act → World → Prop
  | .z, _, a, w => K a w
  | .q i t, S, a, w => ∃ o, ops.toList[i]? = some o ∧ ∃ v, YieldsIf P ops S o v a ∧ U0 P ops K t S (a.put o.dst v) w
  | .e i t, S, a, w => ∃ o, ops.toList[i]? = some o ∧ wpList P ops (Nml fun a' w' => ∃ S' : World → Prop, (∀ W, S' W → S W) ∧ S' w' ∧ U0 P ops K t S' a' w') [o] a w
  | .b i t j u, S, a, w => (∃ o, ops.toList[i]? = some o ∧ wpList P ops (Nml fun a' w' => ∃ S' : World → Prop, (∀ W, S' W → S W) ∧ S' w' ∧ U0 P ops K t S' a' w') [o] a w) ∧
      (∃ o, ops.toList[j]? = some o ∧ wpList P ops (Nml fun a' w' => ∃ S' : World → Prop, (∀ W, S' W → S W) ∧ S' w' ∧ U0 P ops K u S' a' w') [o] a w)
  | .c i t j u k x, S, a, w => (∃ o, ops.toList[i]? = some o ∧ wpList P ops (Nml fun a' w' => ∃ S' : World → Prop, (∀ W, S' W → S W) ∧ S' w' ∧ U0 P ops K t S' a' w') [o] a w) ∧ (∃ o, ops.toList[j]? = some o ∧ wpList P ops (Nml fun a' w' => ∃ S' : World → Prop, (∀ W, S' W → S W) ∧ S' w' ∧ U0 P ops K u S' a' w') [o] a w) ∧ (∃ o, ops.toList[k]? = some o ∧ wpList P ops (Nml fun a' w' => ∃ S' : World → Prop, (∀ W, S' W → S W) ∧ S' w' ∧ U0 P ops K x S' a' w') [o] a w)
theorem J35 {i : Nat} {o : Oper} {K K' : Act → World → Prop} {a : Act} {w : World} (ho : ops[i]? = some o) (h : wpList P ops (Nml K) [o] a w) (hm : ∀ a w, K a w → K' a w) {Q : Exit → Act → World → Prop} :
    wpOp P ops Q i K' a w := by
  unfold wpOp
  simp only [ho]
  unfold wpList at h
  split
  · rename_i hw
    rw [if_pos hw] at h
    rcases h with h | ⟨_, h⟩
    · refine .inl ?_
      unfold Oper.wp at *
      generalize (execOp a.eval o).run P w = r at *
      cases r with
      | ok n w' =>
        cases n <;> simp only [Oper.upon] at h ⊢
        case value u => exact hm _ _ h
        case skip => exact hm _ _ h
        case defer d => exact hm _ _ h
        case enter f args =>
          refine Calls.mono h fun e D he => ?_
          cases e with
          | returned u => exact hm _ _ he
          | panicked c => exact (he : False).elim
          | outgrown => exact (Z0h he).elim
        case row row args => exact Rows.mono h fun u D he => hm _ _ he
      | halt x w' =>
        cases x <;> simp only [Oper.upon] at h ⊢
        case panic u => exact (h : False).elim
    exact (Z0h h).elim
  rename_i hw
  rw [if_neg hw] at h
  exact hm _ _ h
theorem J1p {Q : Exit → Act → World → Prop} {S S' : World → Prop} (hS : ∀ W, S' W → S W) : ∀ (f : Nat) (L : Array Bool) (a : Act) (w : World), wpAnyH P md ops Q S' f L a w → wpAnyH P md ops Q S f L a w
  | 0, _, _, _, h => h
  | f + 1, _, _, _, h => ⟨h.1, fun i hi => wpOp_mono (fun a' w' h' => ⟨hS _ h'.1, J1p hS f _ a' w' h'.2⟩) (h.2 i hi)⟩
theorem J2f {Q : Exit → Act → World → Prop} (hs : Region.noSelect ops = true) (hQ : ∀ c a d v w, Q (.panic c) (a.put d v) w → Q (.panic c) a w) :
    ∀ (t : Tr) (S : World → Prop) (f : Nat) (L : Array Bool) (a : Act) (w : World), t.ok md ops L = true → t.len ≤ f → S w → U0 P ops (Q .normal) t S a w → wpAnyH P md ops Q S f L a w
  | .z, S, f, L, a, w, hk, _, _, h => wpAnyH_done (by simpa [Tr.ok] using hk) h f
  | .q i t, S, 0, L, a, w, _, hl, _, _ => by simp [Tr.len] at hl
  | .q i t, S, f + 1, L, a, w, hk, hl, hS, h => by
    simp only [Tr.ok, Bool.and_eq_true] at hk
    obtain ⟨o, ho, v, hy, h⟩ := h
    exact wpAnyH_take (by simpa using ho) hs hk.1.2 hk.1.1 (fun c a w h => hQ c a _ _ w h) hy hS (J2f hs hQ t S f _ _ w hk.2 (by simp [Tr.len] at hl; omega) hS h)
  | .e i t, S, 0, L, a, w, _, hl, _, _ => by simp [Tr.len] at hl
  | .e i t, S, f + 1, L, a, w, hk, hl, hS, h => by
    simp only [Tr.ok, Bool.and_eq_true, decide_eq_true_eq] at hk
    obtain ⟨o, ho, h⟩ := h
    refine wpAnyH_all hk.1 (by simp) fun k hk' => ?_
    rw [List.mem_singleton] at hk'
    subst hk'
    exact J35 (by simpa using ho) h fun a' w' ⟨S', h1, h2, h3⟩ => ⟨h1 _ h2, J1p h1 _ _ _ _ (J2f hs hQ t S' f _ _ w' hk.2 (by simp [Tr.len] at hl; omega) h2 h3)⟩
  | .b i t j u, S, 0, L, a, w, _, hl, _, _ => by simp [Tr.len] at hl
  | .b i t j u, S, f + 1, L, a, w, hk, hl, hS, h => by
    simp only [Tr.ok, Bool.and_eq_true, decide_eq_true_eq] at hk
    obtain ⟨⟨o, ho, h⟩, ⟨o2, ho2, h2⟩⟩ := h
    refine wpAnyH_all hk.1.1 (by simp) fun k hk' => ?_
    have hk2 : k = i ∨ k = j := by simpa using hk'
    rcases hk2 with e | e
    · subst e
      exact J35 (by simpa using ho) h fun a' w' ⟨S', h1, h2, h3⟩ => ⟨h1 _ h2, J1p h1 _ _ _ _ (J2f hs hQ t S' f _ _ w' hk.1.2 (by simp [Tr.len] at hl; omega) h2 h3)⟩
    · subst e
      exact J35 (by simpa using ho2) h2 fun a' w' ⟨S', h1, h2, h3⟩ => ⟨h1 _ h2, J1p h1 _ _ _ _ (J2f hs hQ u S' f _ _ w' hk.2 (by simp [Tr.len] at hl; omega) h2 h3)⟩
  | .c i t j u k x, S, 0, L, a, w, _, hl, _, _ => by simp [Tr.len] at hl
  | .c i t j u k x, S, f + 1, L, a, w, hk, hl, hS, h => by
    simp only [Tr.ok, Bool.and_eq_true, decide_eq_true_eq] at hk
    simp only [Tr.len] at hl
    obtain ⟨⟨o, ho, h⟩, ⟨o2, ho2, h2⟩, ⟨o3, D, h3⟩⟩ := h
    refine wpAnyH_all hk.1.1.1 (by simp) fun m hm => ?_
    have G : m = i ∨ m = j ∨ m = k := by simpa using hm
    rcases G with e | e | e
    · subst e
      exact J35 (by simpa using ho) h fun a' w' ⟨S', h1, h2, h3⟩ => ⟨h1 _ h2, J1p h1 _ _ _ _ (J2f hs hQ t S' f _ _ w' hk.1.1.2 (by omega) h2 h3)⟩
    · subst e
      exact J35 (by simpa using ho2) h2 fun a' w' ⟨S', h1, h2, h3⟩ => ⟨h1 _ h2, J1p h1 _ _ _ _ (J2f hs hQ u S' f _ _ w' hk.1.2 (by omega) h2 h3)⟩
    · subst e
      exact J35 (by simpa using D) h3 fun a' w' ⟨S', h1, h2, h3⟩ => ⟨h1 _ h2, J1p h1 _ _ _ _ (J2f hs hQ x S' f _ _ w' hk.2 (by omega) h2 h3)⟩
theorem Z9y {K : Act → World → Prop} : ∀ c (a : Act) d v w, Nml K (.panic c) (a.put d v) w → Nml K (.panic c) a w := fun _ _ _ _ _ h => h
theorem Q4o {id : Nat} {a : Act} {w : World} {Q : Exit → Act → World → Prop} (t : Tr) (S : World → Prop) (hm : P.follows .mixedOrders = true)
    (hB : (Region.noSelect ops && decide (t.len ≤ ops.size) && t.ok .any ops (Array.replicate ops.size false)) = true)
    (h : ∀ W, Off [] w W → S W ∧ U0 P ops (Q .normal) t S a W) : (Code.region id ops true).wp P Q a w := by
  simp only [Bool.and_eq_true, decide_eq_true_eq] at hB
  refine Code.wp_mono Z9x (wp_region_held (S := S) hm ?_)
  obtain ⟨h1, h2⟩ := h { w with drawn := w.drawn + 1 } (J0d (Below.refl _ _).drew)
  exact J2f (Q := Nml (Q .normal)) hB.1.1 Z9y t S _ _ _ _ hB.2 hB.1.2 h1 h2
section
variable {K : Act → World → Prop} {t u : Tr} {S : World → Prop} {a : Act} {w : World} {o : Oper} {i : Nat}
theorem Y9c {v : Value} (ho : ops.toList[i]? = some o) (hw : Region.wanted o (yielded ops a.tmps) = true) (hv : ∀ W, S W → (execOp a.eval o).run P W = .ok (.value v) W) (h : U0 P ops K t S (a.put o.dst v) w) : U0 P ops K (.q i t) S a w :=
  ⟨o, ho, v, .inl ⟨hw, hv⟩, h⟩
theorem Z5f (ho : ops.toList[i]? = some o) (hw : Region.wanted o (yielded ops a.tmps) = false) (h : U0 P ops K t S (a.put o.dst undef) w) : U0 P ops K (.q i t) S a w :=
  ⟨o, ho, undef, .inr ⟨hw, rfl⟩, h⟩
theorem Y9d (ho : ops.toList[i]? = some o) (h : wpList P ops (Nml fun a' w' => ∃ S' : World → Prop, (∀ W, S' W → S W) ∧ S' w' ∧ U0 P ops K t S' a' w') [o] a w) : U0 P ops K (.e i t) S a w := ⟨o, ho, h⟩
theorem Y9e {j : Nat} {o2 : Oper} (ho : ops.toList[i]? = some o) (ho2 : ops.toList[j]? = some o2) (h : wpList P ops (Nml fun a' w' => ∃ S' : World → Prop, (∀ W, S' W → S W) ∧ S' w' ∧ U0 P ops K t S' a' w') [o] a w)
    (h2 : wpList P ops (Nml fun a' w' => ∃ S' : World → Prop, (∀ W, S' W → S W) ∧ S' w' ∧ U0 P ops K u S' a' w') [o2] a w) : U0 P ops K (.b i t j u) S a w := ⟨⟨o, ho, h⟩, ⟨o2, ho2, h2⟩⟩
theorem Y9f (S' : World → Prop) (h1 : ∀ W, S' W → S W) (h2 : S' w) (h : U0 P ops K t S' a w) : wpList P ops (Nml fun a' w' => ∃ S' : World → Prop, (∀ W, S' W → S W) ∧ S' w' ∧ U0 P ops K t S' a' w') [] a w := ⟨S', h1, h2, h⟩
end
/-! ### Loads -/
theorem X8 {a : Act} {W : World} {o : Oper} {ad : Addr} {v : Value} {ty : TypeId} {x : Operand} (ho : o.op = .load ty x) (hx : a.eval x = .pointer (some ad)) (hc : W.cell? ad = some v)
    (hk : (P.underlying ty).map TypeDesc.isRow = some false) : (execOp a.eval o).run P W = .ok (.value v) W := by
  cases hu : P.underlying ty with
  | none => simp [hu] at hk
  | some d =>
    have hd : d.isRow = false := by simpa [hu] using hk
    unfold execOp
    simp only [ho, hx]
    cases d <;> simp_all [Instr.loadAt, Instr.sureAddr, Sem.run_bind, Sem.run_pure, Result.andThen_ok, run_underlying hu, TypeDesc.isRow]
    all_goals simp [loadVar, isAgg, Sem.run_bind, Sem.run_pure, Result.andThen_ok, run_underlying hu, TypeDesc.isRow, hc]
theorem J0g {a : Act} {W : World} {o : Oper} {b j : Nat} {vs : List Value} {ty : TypeId} {x : Operand} (ho : o.op = .load ty x) (hx : a.eval x = .pointer (some ⟨b, j, none⟩)) (hc : ∀ i v, vs[i]? = some v → W.cell? ⟨b, j + i, none⟩ = some v)
    (hk : (P.underlying ty).map TypeDesc.isRow = some true) (hi : (P.info? ty).map (·.size) = some vs.length) : (execOp a.eval o).run P W = .ok (.value (.agg vs.toArray)) W := by
  cases hu : P.underlying ty with
  | none => simp [hu] at hk
  | some d =>
    have hd : d.isRow = true := by simpa [hu] using hk
    have := run_loadAt_mid (P := P) W b j ty vs d hc hu (by cases d <;> simp_all [TypeDesc.isRow]) hi
    simp [execOp, ho, hx, Sem.run_bind, this]
theorem Q6t {a : Act} {W : World} {o : Oper} {b : Nat} {cs : Array Value} {t ty : TypeId} {x : Operand} (ho : o.op = .load ty x) (hx : a.eval x = .pointer (some ⟨b, 0, none⟩)) (hB : Blk W b cs t)
    (hk : (P.underlying ty).map TypeDesc.isRow = some true) (hi : (P.info? ty).map (·.size) = some cs.size) : (execOp a.eval o).run P W = .ok (.value (.agg cs)) W :=
  J0g (vs := cs.toList) ho hx (fun i v hv => by rw [J7 hB, Nat.zero_add]; simpa using hv) hk (by simpa using hi)
end
end

section
section
variable {w W : World} {o : Oper} {a : Act} {x y : Operand} {v u : Value} {l : List UInt8}
theorem J2j (h : Sl W v l) (ho : o.op = .convert 22 9 x) (hx : a.eval x = v) : (execOp a.eval o).run Tryz.prog W = .ok (.value (str l)) W := by
  simp [execOp, ho, hx, Sem.run_bind, Z9u h]
theorem J1u (hs : Sl w v l) (ho : o.op = .call { callee := .builtin .len, args := #[x], argTypes := #[22] }) (hx : a.eval x = v) : (execOp a.eval o).run Tryz.prog W = .ok (.value (.int .i64 (l.length : Int))) W := by
  obtain ⟨A, c, rfl, _⟩ := hs
  unfold execOp
  simp only [ho, resolve, invoke, builtin, Sem.run_bind, Sem.run_pure, Result.andThen_ok, List.map_toArray, List.map_cons, List.map_nil, hx]
  simp [Builtin.len_, run_underlying Tryz.underlying22, goInt, Sem.run_bind]
end
end

section
def Row (t : TypeId) (k : Nat) (w : World) (v : Value) (es : List (List Value)) : Prop := w.ownsRow 0 t k v es.length es.flatten ∧ ∀ e ∈ es, e.length = k
section
variable {t : TypeId} {k : Nat} {w : World} {v : Value} {es : List (List Value)}
theorem Row.off {F : List Nat} {w' : World} (h : Row t k w v es) (q : Off F w w') (hF : ∀ b ∈ F, v.ownBlock ≠ some b) : Row t k w' v es := by
  refine ⟨⟨h.1.1, h.1.2.imp id ?_⟩, h.2⟩
  rintro ⟨g, G, D, rfl, hb, hh, r⟩
  exact ⟨g, G, D, rfl, hb, by rw [q.block g (lt_of_block hh) (fun hx => hF g hx rfl)]; exact hh, r⟩
theorem Row.lt (h : Row t k w v es) : ∀ g, v.ownBlock = some g → g < w.heap.size := by
  intro g hg
  rcases h.1.2 with ⟨rfl, _⟩ | ⟨g', G, D, rfl, _, hh, _⟩
  · cases hg
  obtain rfl : g' = g := Option.some.inj hg
  exact lt_of_block hh
theorem Z9z (t : TypeId) (k : Nat) (w : World) : Row t k w (.slice none 0 0) [] := ⟨⟨by simp, .inl ⟨rfl, rfl⟩⟩, by simp⟩
theorem Row.len (h : Row t k w v es) : ∃ A c, v = .slice A es.length c ∧ es.length ≤ c := by
  rcases h.1.2 with ⟨rfl, hn⟩ | ⟨g, G, D, rfl, _, hh, hc, _⟩
  · exact ⟨none, 0, by rw [hn], by omega⟩
  exact ⟨_, _, rfl, hc⟩
theorem Row.cells (h : Row t k w v es) : v.cells = #[v] ∧ v.oneCell' = true := by
  obtain ⟨A, c, rfl, _⟩ := h.len
  exact ⟨rfl, rfl⟩
theorem Z0i {k : Nat} : ∀ (es : List (List Value)) (j i : Nat) (e : List Value), (∀ e ∈ es, e.length = k) → es[j]? = some e → i < k → es.flatten[j * k + i]? = e[i]?
  | [], _, _, _, _, h, _ => by simp at h
  | x :: es, 0, i, e, hl, h, hi => by
    have hx := hl x (by simp)
    have : x = e := by simpa using h
    subst this
    rw [List.flatten_cons, Nat.zero_mul, Nat.zero_add, List.getElem?_append_left (by omega)]
  | x :: es, j + 1, i, e, hl, h, hi => by
    have hx := hl x (by simp)
    have := Z0i es j i e (fun e he => hl e (by simp [he])) (by simpa using h) hi
    rw [List.flatten_cons, List.getElem?_append_right (by rw [hx, Nat.add_mul]; omega), hx, show (j + 1) * k + i - k = j * k + i by rw [Nat.add_mul]; omega]
    exact this
theorem Row.at (h : Row t k w v es) {j : Nat} {e : List Value} (hj : es[j]? = some e) : ∃ g c, v = .slice (some ⟨g, 0, none⟩) es.length c ∧ ∀ i x, e[i]? = some x → w.cell? ⟨g, j * k + i, none⟩ = some x := by
  have G := (List.getElem?_eq_some_iff.1 hj).1
  rcases h.1.2 with ⟨rfl, hn⟩ | ⟨g, J, M, rfl, _, hh, hc, hm, hs, ht⟩
  · omega
  refine ⟨g, J, rfl, fun i x hx => ?_⟩
  have he : e.length = k := h.2 e (List.mem_of_getElem? hj)
  have hi : i < k := by have := (List.getElem?_eq_some_iff.1 hx).1; omega
  have hf := Z0i es j i e h.2 hj hi
  have D : j * k + i < es.length * k := by
    have : (j + 1) * k ≤ es.length * k := Nat.mul_le_mul_right k G
    rw [Nat.add_mul] at this; omega
  rw [cell_of_row w g _ M _ _ hh]
  rw [← ht, List.getElem?_take_of_lt D] at hf
  rw [← hx, ← hf]; simp
theorem Z0j {g : Nat} {cs : Array Value} (h : Blk w g cs t) (hc : cs.toList = es.flatten) (hl : ∀ e ∈ es, e.length = k) (hm : es.length ≤ maxLen) : Row t k w (.slice (some ⟨g, 0, none⟩) es.length es.length) es := by
  have D : es.flatten.length = es.length * k := by
    clear hc hm
    induction es with
    | nil => simp
    | cons x r ih => rw [List.flatten_cons, List.length_append, hl x (by simp), ih (fun e he => hl e (by simp [he])), List.length_cons, Nat.add_mul]; omega
  have hs : cs.size = es.length * k := by rw [← Array.length_toList, hc, D]
  exact ⟨⟨D, .inr ⟨g, es.length, cs, rfl, Nat.zero_le _, h, Nat.le_refl _, hm, hs, by rw [hc, List.take_of_length_le (by omega)]⟩⟩, hl⟩
end
theorem vs0 : ∀ v ∈ ([] : List Value), v.cells = #[v] := by simp
theorem vsc {x : Value} {r : List Value} (h : x.cells = #[x]) (k : ∀ v ∈ r, v.cells = #[v]) : ∀ v ∈ x :: r, v.cells = #[v] := by
  intro v hv
  rcases List.mem_cons.1 hv with rfl | hv
  · exact h
  exact k v hv
theorem Q8k {P : Program} {t : TypeId} {k b : Nat} (h : (P.info? t).map (fun i => (i.zero.map (·.cells.size), i.size, i.bytes)) = some (some k, k, b)) : ∃ i z, P.info? t = some i ∧ i.zero = some z ∧ i.size = k ∧ i.bytes = b ∧ z.cells.size = k := by
  cases hi : P.info? t with
  | none => simp [hi] at h
  | some i =>
    simp only [hi, Option.map_some, Option.some.injEq, Prod.mk.injEq] at h
    cases hz : i.zero with
    | none => simp [hz] at h
    | some z => exact ⟨i, z, rfl, hz, h.2.1, h.2.2, by simpa [hz] using h.1⟩
section
variable {P : Program} {ops : Array Oper} {Q : Exit → Act → World → Prop} {w : World} {l : List Oper} {o : Oper} {a : Act} {tS t t2 : TypeId} {k bytes : Nat} {s x : Operand} {v u : Value} {es : List (List Value)}
theorem Q6u {g c : Nat} {cs : Array Value} (hw : Region.wanted o (yielded ops a.tmps) = true) (ho : o.op = .call { callee := .builtin .append, args := #[s, x], argTypes := #[tS, tS] }) (hs : a.eval s = v) (hx : a.eval x = .slice (some ⟨g, 0, none⟩) 1 c)
    (hown : Row t k w v es) (hB : Blk w g cs t2) (hk : cs.size = k) (h1 : cs.all (·.oneCell') = true) (hk0 : 0 < k) (ht : P.underlying tS = some (.slice t)) (hi : (P.info? t).map (fun i => (i.zero.map (·.cells.size), i.size, i.bytes)) = some (some k, k, bytes))
    (hlen : (es.length + 1) * bytes ≤ 140737488355328) (hl2 : es.length + 1 ≤ maxLen)
    (h : ∀ v' W, Row t k W v' (es ++ [cs.toList]) → Off v.ownBlock.toList w W → Of v'.ownBlock v.ownBlock w.heap.size → wpList P ops Q l (a.put o.dst v') W) : wpList P ops Q (o :: l) a w := by
  obtain ⟨i, z, hi, hz, G, J, M⟩ := Q8k hi
  obtain ⟨v', W, D, h2, h3, h4, h5⟩ := run_append_own_at (P := P) w 0 tS o.type t i z k bytes ht hi hz G J M hk0 v es.length es.flatten hown.1 ⟨g, 0, none⟩ 1 c cs.toList (by simp [hk])
    (fun j u hu => by rw [Addr.add_mid, J7 hB, Nat.zero_add]; simpa using hu) (fun u hu => Array.all_eq_true_iff_forall_mem.1 h1 u (by simpa using hu)) hl2 hlen (Nat.zero_le _)
  refine J7r hw (v := v') (W := W) ?_ (h v' W ⟨?_, ?_⟩ (J9s h3) (Z0d h5))
  · unfold execOp
    simp only [ho, resolve, invoke, builtin, Sem.run_bind, Sem.run_pure, Result.andThen_ok, List.map_toArray, List.map_cons, List.map_nil, hs, hx, D]
  · rw [List.length_append, List.flatten_append]; simpa using h2
  intro e he
  rcases List.mem_append.1 he with he | he
  · exact hown.2 e he
  rw [List.mem_singleton.1 he]; simpa using hk
theorem J16 {W : World} (hs : Row t k w v es) (ho : o.op = .call { callee := .builtin .len, args := #[x], argTypes := #[tS] }) (hx : a.eval x = v) (ht : P.underlying tS = some (.slice t)) : (execOp a.eval o).run P W = .ok (.value (.int .i64 (es.length : Int))) W := by
  obtain ⟨A, c, rfl, _⟩ := hs.len
  unfold execOp
  simp only [ho, resolve, invoke, builtin, Sem.run_bind, Sem.run_pure, Result.andThen_ok, List.map_toArray, List.map_cons, List.map_nil, hx]
  simp [Builtin.len_, run_underlying ht, goInt, Sem.run_bind]
theorem Y00 {W : World} {y : Operand} {kk : IntKind} {ad : Addr} {n c j : Nat} (hj : j < n) (ho : o.op = .indexAddr tS x y) (hx : a.eval x = .slice (some ad) n c) (hy : a.eval y = .int kk (j : Int)) (ht : P.underlying tS = some (.slice t)) (hi : (P.info? t).map (·.size) = some k) :
    (execOp a.eval o).run P W = .ok (.value (.pointer (some (ad.add (j * k))))) W := by
  cases hq : P.info? t with
  | none => simp [hq] at hi
  | some i =>
    have hs : i.size = k := by simpa [hq] using hi
    simp [execOp, ho, hx, hy, Instr.indexAt, asIntOf, run_underlying ht, Sem.run_bind, sizeOf, typeInfo, hq, hs, hj]
theorem J2k {e : TypeId} {len : Nat} {parts : Array (Nat × Operand)} (vs : List Value) (ho : o.op = .buildSlice tS len parts) (hp : parts.toList.map (fun p => (p.1, a.eval p.2)) = (vs.zipIdx 0).map fun x => (x.2, x.1)) (hv : ∀ v ∈ vs, v.cells = #[v])
    (hu : P.underlying tS = some (.slice e)) (hsz : (P.info? e).map (·.size) = some 1) (hz : ((P.info? e).bind (·.zero)).isSome = true) (hlen : len = vs.length) (hpos : 0 < len) (hsmall : len ≤ 2 ^ 24) :
    (execOp a.eval o).run P w = .ok (.value (.slice (some ⟨w.heap.size, 0, none⟩) len len)) (w.alloc (.cells vs.toArray e)) := by
  cases hie : P.info? e with
  | none => simp [hie] at hsz
  | some ie =>
    simp only [hie, Option.map_some, Option.some.injEq, Option.bind_some] at hsz hz
    obtain ⟨z, D⟩ := Option.isSome_iff_exists.1 hz
    unfold execOp
    simp only [ho, Sem.run_bind]
    rw [run_buildSlice w tS e len _ vs.toArray ie z hu hie D (by rw [hsz]; omega) (by rw [hsz]; omega) (by rw [Array.toList_map, hsz]; refine Eq.trans (congrArg (Instr.fill _ _) hp) ?_; exact Great.fill_flat _ _ hv (by simp [hlen]))]
    rfl
theorem J2u {e : TypeId} {parts : Array (Nat × Operand)} {x0 : Operand} {cs : Array Value} (ho : o.op = .buildSlice tS 1 parts) (hp : parts.toList = [(0, x0)]) (hx : a.eval x0 = .agg cs)
    (hu : P.underlying tS = some (.slice e)) (hsz : (P.info? e).map (·.size) = some cs.size) (hz : (P.info? e).map (fun i => i.zero.map (·.cells.size)) = some (some cs.size)) (hpos : 0 < cs.size) (hsmall : cs.size ≤ 2 ^ 24) :
    (execOp a.eval o).run P w = .ok (.value (.slice (some ⟨w.heap.size, 0, none⟩) 1 1)) (w.alloc (.cells cs e)) := by
  cases hie : P.info? e with
  | none => simp [hie] at hsz
  | some ie =>
    simp only [hie, Option.map_some, Option.some.injEq] at hsz hz
    cases hzz : ie.zero with
    | none => simp [hzz] at hz
    | some z =>
      obtain ⟨r, hr, J, hk⟩ := Great.fill_dense (s := cs.size) hpos [.agg cs] 0 ((Array.range (1 * cs.size)).map (z.cells[· % z.cells.size]!)) (fun v hv => by rw [List.mem_singleton.1 hv]; rfl) (by simp)
      have G : r = cs := by
        apply Array.ext_getElem?
        intro k
        rw [hk k]
        simp only [Nat.zero_mul, Nat.zero_le, true_and, List.length_cons, List.length_nil, Nat.zero_add, Nat.one_mul]
        by_cases D : k < cs.size
        · rw [if_pos D, Nat.div_eq_of_lt D, Nat.mod_eq_of_lt D]
          rfl
        · rw [if_neg D, Array.getElem?_eq_none (by simpa using D), Array.getElem?_eq_none (by simpa using D)]
      subst G
      unfold execOp
      simp only [ho, Sem.run_bind]
      rw [run_buildSlice w tS e 1 _ _ ie z hu hie hzz (by rw [hsz]; omega) (by rw [hsz]; omega) (by rw [Array.toList_map, hp, hsz]; simp only [List.map_cons, List.map_nil, hx]; exact hr)]
      rfl
end
end

section
def Owz (w : World) (v : Value) (l : List UInt8) : Prop :=
  ∃ (g cap : Nat) (cs : Array Value) (fz : Nat × Nat), v = .slice (some ⟨g, 0, none⟩) l.length cap ∧ w.heap[g]? = some (.cells cs 5 fz) ∧ (fz.1 = fz.2 ∨ cs.size ≤ fz.1) ∧ l.length ≤ cap ∧ cap ≤ maxLen ∧ cs.size = cap ∧ cs.toList.take l.length = bs8 l
theorem Owz.lt {w : World} {v : Value} {l : List UInt8} (h : Owz w v l) : ∀ g, v.ownBlock = some g → g < w.heap.size := by
  intro x hx
  obtain ⟨g, D, cs, fz, rfl, hh, _⟩ := h
  obtain rfl : g = x := Option.some.inj hx
  exact lt_of_block hh
theorem Owz.off {F : List Nat} {w w' : World} {v : Value} {l : List UInt8} (h : Owz w v l) (k : Off F w w') (hF : ∀ b ∈ F, v.ownBlock ≠ some b) : Owz w' v l := by
  obtain ⟨g, D, cs, fz, rfl, hh, r⟩ := h
  exact ⟨g, D, cs, fz, rfl, by rw [k.block g (lt_of_block hh) (fun hx => hF g hx rfl)]; exact hh, r⟩
theorem Owz.cells {w : World} {g cap : Nat} {l : List UInt8} {cs : Array Value} {fz : Nat × Nat} (hh : w.heap[g]? = some (.cells cs 5 fz)) (ht : cs.toList.take l.length = bs8 l) : ∀ j u, (bs8 l)[j]? = some u → w.cell? ((⟨g, 0, none⟩ : Addr).add j) = some u := fun j u hu => by
  rw [Addr.add_mid, cell_of_row w g _ cs _ _ hh, Nat.zero_add]
  rw [← ht, List.getElem?_take] at hu
  split at hu
  · simpa using hu
  · cases hu
theorem Owz.sl {w : World} {v : Value} {l : List UInt8} (h : Owz w v l) : Sl w v l := by
  obtain ⟨g, cap, cs, fz, rfl, hh, hf, hc, hm, hs, ht⟩ := h
  exact ⟨some ⟨g, 0, none⟩, cap, rfl, hc, hm, (fun h => by cases h), fun j x hj => ⟨_, rfl, Owz.cells (cap := cap) hh ht j _ (Q4k hj)⟩⟩
theorem Owz.len {w : World} {v : Value} {l : List UInt8} (h : Owz w v l) : ∃ A c, v = .slice A l.length c ∧ l.length ≤ c := by
  obtain ⟨g, D, cs, fz, rfl, _, _, hc, _⟩ := h
  exact ⟨_, _, rfl, hc⟩
theorem Y0d {w : World} {g c : Nat} {l : List UInt8} {cs : Array Value} (h : Blz w g cs 5) (hc : l.length ≤ c) (hm : c ≤ maxLen) (hs : cs.size = c) (hl : cs.toList.take l.length = bs8 l) : Owz w (.slice (some ⟨g, 0, none⟩) l.length c) l := by
  obtain ⟨fz, h1, h2⟩ := h
  exact ⟨g, c, cs, fz, rfl, h1, .inr h2, hc, hm, hs, hl⟩
theorem J5w {P : Program} (g o : Nat) (t : TypeId) (fz : Nat × Nat) : ∀ (vs : List Value) (i : Nat) (cur : Array Value) (w : World), w.heap[g]? = some (.cells cur t fz) → (fz.1 = fz.2 ∨ cur.size ≤ fz.1) → o + i + vs.length ≤ cur.size → (∀ v ∈ vs, v.oneCell' = true) →
    (storeCells ⟨g, o, none⟩ vs i).run P w = .ok () (w.setRow g (cur.toList.take (o + i) ++ vs ++ cur.toList.drop (o + i + vs.length)).toArray)
  | [], i, cur, w, hg, _, _, _ => by
    simp only [storeCells, List.append_nil, List.length_nil, Nat.add_zero, List.take_append_drop, Array.toArray_toList]
    rw [setRow_self w g cur t fz hg]
    rfl
  | v :: rest, i, cur, w, hg, hz, hl, h1 => by
    have hi : o + i < cur.size := by simp at hl; omega
    have J : (⟨g, o, none⟩ : Addr).add i = ⟨g, o + i, none⟩ := by unfold Addr.add; split <;> simp_all
    have D : w.cell? ⟨g, o + i, none⟩ = some cur[o + i] := by simp [World.cell?, hg, hi]
    have G : w.frozen? ⟨g, o + i, none⟩ = false := by simp [World.frozen?, hg]; omega
    have M : (store ((⟨g, o, none⟩ : Addr).add i) v).run P w = .ok () (w.setRow g (cur.setIfInBounds (o + i) v)) := by
      rw [J, run_store P w _ v _ (h1 v (by simp)), D]
      simp [G, setCell_eq_setRow w g (o + i) cur t fz v hg]
    have ih := J5w (P := P) g o t fz rest (i + 1) (cur.setIfInBounds (o + i) v) (w.setRow g (cur.setIfInBounds (o + i) v)) (setRow_heap w g cur _ t _ hg) (by simpa using hz) (by simp at hl ⊢; omega) (fun x hx => h1 x (by simp [hx]))
    simp only [storeCells, Sem.run_bind, M, Result.andThen_ok, ih, setRow_setRow]
    congr 3
    have e := list_seg_step cur.toList (o + i) v rest (by simp at hl ⊢; omega)
    simpa [Array.toList_setIfInBounds, Nat.add_assoc] using e
theorem Q53 (w : World) (ty : TypeId) {v u : Value} {l m : List UInt8} (hown : Owz w v l) (hs : Sl w u m) (hlen : l.length + m.length ≤ 140737488355328) :
    ∃ v' W, (Builtin.append_ #[22, 22] ty #[v, u]).run Tryz.prog w = .ok v' W ∧ Owz W v' (l ++ m) ∧ Off v.ownBlock.toList w W ∧ (v'.ownBlock = v.ownBlock ∨ v'.ownBlock = some w.heap.size) := by
  obtain ⟨i, hi, hz, N, V⟩ := info_parts J68
  have ht := Tryz.underlying22
  obtain ⟨g, cap, cs, fz, rfl, hh, hf, hc, hm, S, R⟩ := hown
  obtain ⟨A, c, rfl, _, _, _, M⟩ := hs
  rcases A with _ | ad
  · have : m = [] := by
      cases m with
      | nil => rfl
      | cons x r => obtain ⟨ad, h, _⟩ := M 0 x rfl; cases h
    subst this
    refine ⟨.slice (some ⟨g, 0, none⟩) l.length cap, w, ?_, by rw [List.append_nil]; exact ⟨g, cap, cs, fz, rfl, hh, hf, hc, hm, S, R⟩, Off.refl _ _, .inl rfl⟩
    simp [Builtin.append_, run_underlying ht, sizeOf, typeInfo, hi, Builtin.lenOf, Builtin.firstCells, hc, storeCells]
  have J : ∀ j x, (bs8 m)[j]? = some x → w.cell? (ad.add j) = some x := fun j x hx => by
    simp only [bs8, List.getElem?_map, Option.map_eq_some_iff] at hx
    obtain ⟨y, hy, rfl⟩ := hx
    obtain ⟨α, h, U⟩ := M j y hy
    obtain rfl := Option.some.inj h
    exact U
  by_cases D : l.length + m.length ≤ cap
  · have X := run_firstCells_some (P := Tryz.prog) w 1 m.length ad m.length c (bs8 m) (by rw [J02, Nat.mul_one]) J
    have T := J5w (P := Tryz.prog) g (l.length * 1) 5 fz (bs8 m) 0 cs w hh hf (by rw [J02, S]; omega) (Q4j m)
    simp only [Nat.add_zero, Nat.mul_one] at T
    refine ⟨.slice (some ⟨g, 0, none⟩) (l.length + m.length) cap, w.setRow g (cs.toList.take l.length ++ bs8 m ++ cs.toList.drop (l.length + (bs8 m).length)).toArray, ?_, ?_, ?_, .inl rfl⟩
    · simp [Builtin.append_, run_underlying ht, sizeOf, typeInfo, hi, N, Builtin.lenOf, D, X, Addr.add_lit, T]
    · have G : ((cs.toList.take l.length ++ bs8 m ++ cs.toList.drop (l.length + (bs8 m).length)).toArray).size = cs.size := by
        simp only [List.size_toArray, List.length_append, List.length_take, List.length_drop, Array.length_toList, J02]
        omega
      refine ⟨g, cap, _, fz, by rw [List.length_append], setRow_heap w g cs _ 5 fz hh, by rw [G]; exact hf, by rw [List.length_append]; exact D, hm, by rw [G]; exact S, ?_⟩
      rw [R, ← J4r, ← J02 (l ++ m)]
      exact List.take_left
    exact ⟨rfl, rfl, rfl, by simp, fun k hk hn => setRow_other w g k _ (fun e => hn (by simp [Value.ownBlock, e]))⟩
  have hr := run_append_grow (P := Tryz.prog) w 22 ty 5 i (.int .u8 0) ht hi hz ⟨g, 0, none⟩ l.length cap (bs8 l) (by rw [J02, N, Nat.mul_one]) (Owz.cells (cap := cap) hh R) ad m.length c (bs8 m) (by rw [J02, N, Nat.mul_one]) J (by omega) (by omega)
    (growslice_fits (by omega) (by rw [V]; omega))
  have Y := grownCap_ge w (l.length + m.length) cap 5
  have Z : grownCap w (l.length + m.length) cap 5 ≤ maxLen := grownCap_le_maxLen w (l.length + m.length) cap 5 (by unfold maxLen; omega)
  refine ⟨_, _, hr, ⟨w.heap.size, _, _, (0, 0), by rw [List.length_append], heap_alloc_new w.drew _, .inl rfl, by rw [List.length_append]; exact Y, Z, ?_, ?_⟩, J0d ((Below.refl _ _).drew.alloc (Nat.le_refl _) _) |>.mono (fun x hx => by cases hx), .inr rfl⟩
  · simp only [Array.size_append, List.size_toArray, size_zeroCells, J02, Value.cells]
    simp
    omega
  simp only [Array.toList_append, List.append_assoc]
  rw [← List.append_assoc, ← J4r, ← J02 (l ++ m)]
  exact List.take_left
theorem Q6y {ops : Array Oper} {Q : Exit → Act → World → Prop} {w : World} {l : List Oper} {o : Oper} {a : Act} {s x : Operand} {v u : Value} {xs ys : List UInt8} (hw : Region.wanted o (yielded ops a.tmps) = true)
    (ho : o.op = .call { callee := .builtin .append, args := #[s, x], argTypes := #[22, 22] }) (hs : a.eval s = v) (hx : a.eval x = u) (hown : Owz w v xs) (hsl : Sl w u ys) (hlen : xs.length + ys.length ≤ 140737488355328)
    (h : ∀ v' W, Owz W v' (xs ++ ys) → Off v.ownBlock.toList w W → Of v'.ownBlock v.ownBlock w.heap.size → wpList Tryz.prog ops Q l (a.put o.dst v') W) : wpList Tryz.prog ops Q (o :: l) a w := by
  obtain ⟨v', W, D, h1, h2, h3⟩ := Q53 w o.type hown hsl hlen
  refine J7r hw (v := v') (W := W) ?_ (h v' W h1 h2 (Z0d h3))
  unfold execOp
  simp only [ho, resolve, invoke, builtin, Sem.run_bind, Sem.run_pure, Result.andThen_ok, List.map_toArray, List.map_cons, List.map_nil, hs, hx, D]
theorem Q8o {ops : Array Oper} {Q : Exit → Act → World → Prop} {w : World} {r : List Oper} {o : Oper} {a : Act} {x : Operand} {l : List UInt8} (hl : l.length ≤ 140737488355328) (hw : Region.wanted o (yielded ops a.tmps) = true) (ho : o.op = .convert 9 22 x) (hx : a.eval x = str l)
    (h : ∀ v W, Of v.ownBlock none w.heap.size → Off [] w W → Owz W v l → wpList Tryz.prog ops Q r (a.put o.dst v) W) : wpList Tryz.prog ops Q (o :: r) a w :=
  Z2v hl hw ho hx fun b c cs W h1 h2 h3 h4 h5 h6 h7 => h _ W (fun x hx D => by have e : b = x := Option.some.inj hx; omega) h2 (Y0d h3 h4 h5 h6 h7)
end
end Go.Proofs.YtejkmhgkkibafaaGreatDoor
