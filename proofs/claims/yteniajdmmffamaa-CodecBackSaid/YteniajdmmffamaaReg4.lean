/- Regions whose order Go leaves open, by a plan: quiet operations (one value in every world that meets S; they change nothing) come first, the others in whatever order the edges leave (a tree of choices). No conditions. -/
import Derived.Test.YteniajdmmffamaaSt
namespace Go.Proofs.Yteniajdmmffamaa
set_option linter.unusedSimpArgs false
set_option linter.unusedVariables false
open Go.RowKit

/-- short names of what brings a frame into its form -/
theorem nA (l : List Value) (i : Nat) (a : Value) : l.toArray.setIfInBounds i a = (l.set i a).toArray := List.setIfInBounds_toArray l i a
theorem nB {x : Value} {xs : List Value} {a : Value} : (x :: xs).set 0 a = a :: xs := rfl
theorem nC {x : Value} {xs : List Value} {i : Nat} {a : Value} : (x :: xs).set (i + 1) a = x :: xs.set i a := rfl
/-- A plan: a quiet operation, one that does something, a choice of two, the end. -/
inductive Tr where
  | z : Tr
  | q : Nat → Tr → Tr
  | e : Nat → Tr → Tr
  | b : Nat → Tr → Nat → Tr → Tr
  | c : Nat → Tr → Nat → Tr → Nat → Tr → Tr
def Tr.len : Tr → Nat
  | .z => 0
  | .q _ t => t.len + 1
  | .e _ t => t.len + 1
  | .b _ t _ u => max t.len u.len + 1
  | .c _ t _ u _ x => max (max t.len u.len) x.len + 1
def Tr.ok (md : Region.Mode) (ops : Array Oper) : Tr → Array Bool → Bool
  | .z, L => (Region.ready md ops L).isEmpty
  | .q i t, L => (Region.ready md ops L).contains i && Region.free md ops L i && t.ok md ops (L.setIfInBounds i true)
  | .e i t, L => decide (Region.ready md ops L = [i]) && t.ok md ops (L.setIfInBounds i true)
  | .b i t j u, L => decide (Region.ready md ops L = [i, j]) && t.ok md ops (L.setIfInBounds i true) && u.ok md ops (L.setIfInBounds j true)
  | .c i t j u k x, L => decide (Region.ready md ops L = [i, j, k]) && t.ok md ops (L.setIfInBounds i true) && u.ok md ops (L.setIfInBounds j true) && x.ok md ops (L.setIfInBounds k true)
/-- A post that asks for the ordinary end. -/
def Nml (K : Act → World → Prop) : Exit → Act → World → Prop
  | .normal, a, w => K a w
  | _, _, _ => False
theorem nml_out {K : Act → World → Prop} (h : LetsOut (Nml K)) : False := by
  obtain ⟨a, w, h⟩ := h
  exact h
theorem nml_imp {Q : Exit → Act → World → Prop} : ∀ (e : Exit) (a : Act) (w : World), Nml (Q .normal) e a w → Q e a w := fun e a w h => by
  cases e <;> first | exact h | exact (h : False).elim
section
variable {P : Program} {ops : Array Oper} {md : Region.Mode}
def wpTr (P : Program) (ops : Array Oper) (K : Act → World → Prop) : Tr → (World → Prop) → Act → World → Prop
  | .z, _, a, w => K a w
  | .q i t, S, a, w => ∃ o, ops.toList[i]? = some o ∧ ∃ v, YieldsIf P ops S o v a ∧ wpTr P ops K t S (a.put o.dst v) w
  | .e i t, S, a, w => ∃ o, ops.toList[i]? = some o ∧ wpList P ops (Nml fun a' w' => ∃ S' : World → Prop, (∀ W, S' W → S W) ∧ S' w' ∧ wpTr P ops K t S' a' w') [o] a w
  | .b i t j u, S, a, w => (∃ o, ops.toList[i]? = some o ∧ wpList P ops (Nml fun a' w' => ∃ S' : World → Prop, (∀ W, S' W → S W) ∧ S' w' ∧ wpTr P ops K t S' a' w') [o] a w) ∧
      (∃ o, ops.toList[j]? = some o ∧ wpList P ops (Nml fun a' w' => ∃ S' : World → Prop, (∀ W, S' W → S W) ∧ S' w' ∧ wpTr P ops K u S' a' w') [o] a w)
  | .c i t j u k x, S, a, w => (∃ o, ops.toList[i]? = some o ∧ wpList P ops (Nml fun a' w' => ∃ S' : World → Prop, (∀ W, S' W → S W) ∧ S' w' ∧ wpTr P ops K t S' a' w') [o] a w) ∧ (∃ o, ops.toList[j]? = some o ∧ wpList P ops (Nml fun a' w' => ∃ S' : World → Prop, (∀ W, S' W → S W) ∧ S' w' ∧ wpTr P ops K u S' a' w') [o] a w) ∧ (∃ o, ops.toList[k]? = some o ∧ wpList P ops (Nml fun a' w' => ∃ S' : World → Prop, (∀ W, S' W → S W) ∧ S' w' ∧ wpTr P ops K x S' a' w') [o] a w)
theorem wpOp_of_one {i : Nat} {o : Oper} {K K' : Act → World → Prop} {a : Act} {w : World} (ho : ops[i]? = some o) (h : wpList P ops (Nml K) [o] a w) (hm : ∀ a w, K a w → K' a w) {Q : Exit → Act → World → Prop} :
    wpOp P ops Q i K' a w := by
  unfold wpOp
  simp only [ho]
  unfold wpList at h
  split
  · rename_i hw
    rw [if_pos hw] at h
    rcases h with h | ⟨_, h⟩
    · refine .inl ?_
      unfold Oper.wp at *
      generalize (execOp a.eval o).run P w = r at *
      cases r with
      | ok n w' =>
        cases n <;> simp only [Oper.upon] at h ⊢
        case value u => exact hm _ _ h
        case skip => exact hm _ _ h
        case defer d => exact hm _ _ h
        case enter f args =>
          refine Calls.mono h fun e w'' he => ?_
          cases e with
          | returned u => exact hm _ _ he
          | panicked c => exact (he : False).elim
          | outgrown => exact (nml_out he).elim
        case row row args => exact Rows.mono h fun u w'' he => hm _ _ he
      | halt x w' =>
        cases x <;> simp only [Oper.upon] at h ⊢
        case panic u => exact (h : False).elim
    · exact (nml_out h).elim
  · rename_i hw
    rw [if_neg hw] at h
    exact hm _ _ h
theorem wpAnyH_weaken {Q : Exit → Act → World → Prop} {S S' : World → Prop} (hS : ∀ W, S' W → S W) : ∀ (f : Nat) (L : Array Bool) (a : Act) (w : World), wpAnyH P md ops Q S' f L a w → wpAnyH P md ops Q S f L a w
  | 0, _, _, _, h => h
  | f + 1, _, _, _, h => ⟨h.1, fun i hi => wpOp_mono (fun a' w' h' => ⟨hS _ h'.1, wpAnyH_weaken hS f _ a' w' h'.2⟩) (h.2 i hi)⟩
theorem wpTr_sound {Q : Exit → Act → World → Prop} (hs : Region.noSelect ops = true) (hQ : ∀ c a d v w, Q (.panic c) (a.put d v) w → Q (.panic c) a w) :
    ∀ (t : Tr) (S : World → Prop) (f : Nat) (L : Array Bool) (a : Act) (w : World), t.ok md ops L = true → t.len ≤ f → S w → wpTr P ops (Q .normal) t S a w → wpAnyH P md ops Q S f L a w
  | .z, S, f, L, a, w, hk, _, _, h => wpAnyH_done (by simpa [Tr.ok] using hk) h f
  | .q i t, S, 0, L, a, w, _, hl, _, _ => by simp [Tr.len] at hl
  | .q i t, S, f + 1, L, a, w, hk, hl, hS, h => by
    simp only [Tr.ok, Bool.and_eq_true] at hk
    obtain ⟨o, ho, v, hy, h⟩ := h
    exact wpAnyH_take (by simpa using ho) hs hk.1.2 hk.1.1 (fun c a w h => hQ c a _ _ w h) hy hS (wpTr_sound hs hQ t S f _ _ w hk.2 (by simp [Tr.len] at hl; omega) hS h)
  | .e i t, S, 0, L, a, w, _, hl, _, _ => by simp [Tr.len] at hl
  | .e i t, S, f + 1, L, a, w, hk, hl, hS, h => by
    simp only [Tr.ok, Bool.and_eq_true, decide_eq_true_eq] at hk
    obtain ⟨o, ho, h⟩ := h
    refine wpAnyH_all hk.1 (by simp) fun k hk' => ?_
    rw [List.mem_singleton] at hk'
    subst hk'
    exact wpOp_of_one (by simpa using ho) h fun a' w' ⟨S', h1, h2, h3⟩ => ⟨h1 _ h2, wpAnyH_weaken h1 _ _ _ _ (wpTr_sound hs hQ t S' f _ _ w' hk.2 (by simp [Tr.len] at hl; omega) h2 h3)⟩
  | .b i t j u, S, 0, L, a, w, _, hl, _, _ => by simp [Tr.len] at hl
  | .b i t j u, S, f + 1, L, a, w, hk, hl, hS, h => by
    simp only [Tr.ok, Bool.and_eq_true, decide_eq_true_eq] at hk
    obtain ⟨⟨o, ho, h⟩, ⟨o2, ho2, h2⟩⟩ := h
    refine wpAnyH_all hk.1.1 (by simp) fun k hk' => ?_
    have hk2 : k = i ∨ k = j := by simpa using hk'
    rcases hk2 with e | e
    · subst e
      exact wpOp_of_one (by simpa using ho) h fun a' w' ⟨S', h1, h2, h3⟩ => ⟨h1 _ h2, wpAnyH_weaken h1 _ _ _ _ (wpTr_sound hs hQ t S' f _ _ w' hk.1.2 (by simp [Tr.len] at hl; omega) h2 h3)⟩
    · subst e
      exact wpOp_of_one (by simpa using ho2) h2 fun a' w' ⟨S', h1, h2, h3⟩ => ⟨h1 _ h2, wpAnyH_weaken h1 _ _ _ _ (wpTr_sound hs hQ u S' f _ _ w' hk.2 (by simp [Tr.len] at hl; omega) h2 h3)⟩
  | .c i t j u k x, S, 0, L, a, w, _, hl, _, _ => by simp [Tr.len] at hl
  | .c i t j u k x, S, f + 1, L, a, w, hk, hl, hS, h => by
    simp only [Tr.ok, Bool.and_eq_true, decide_eq_true_eq] at hk
    simp only [Tr.len] at hl
    obtain ⟨⟨o, ho, h⟩, ⟨o2, ho2, h2⟩, ⟨o3, ho3, h3⟩⟩ := h
    refine wpAnyH_all hk.1.1.1 (by simp) fun m hm => ?_
    have hm2 : m = i ∨ m = j ∨ m = k := by simpa using hm
    rcases hm2 with e | e | e
    · subst e
      exact wpOp_of_one (by simpa using ho) h fun a' w' ⟨S', h1, h2, h3⟩ => ⟨h1 _ h2, wpAnyH_weaken h1 _ _ _ _ (wpTr_sound hs hQ t S' f _ _ w' hk.1.1.2 (by omega) h2 h3)⟩
    · subst e
      exact wpOp_of_one (by simpa using ho2) h2 fun a' w' ⟨S', h1, h2, h3⟩ => ⟨h1 _ h2, wpAnyH_weaken h1 _ _ _ _ (wpTr_sound hs hQ u S' f _ _ w' hk.1.2 (by omega) h2 h3)⟩
    · subst e
      exact wpOp_of_one (by simpa using ho3) h3 fun a' w' ⟨S', h1, h2, h3⟩ => ⟨h1 _ h2, wpAnyH_weaken h1 _ _ _ _ (wpTr_sound hs hQ x S' f _ _ w' hk.2 (by omega) h2 h3)⟩
theorem nml_put {K : Act → World → Prop} : ∀ c (a : Act) d v w, Nml K (.panic c) (a.put d v) w → Nml K (.panic c) a w := fun _ _ _ _ _ h => h
/-- A region by a plan. -/
theorem wp_region_tr {id : Nat} {a : Act} {w : World} {Q : Exit → Act → World → Prop} (t : Tr) (S : World → Prop) (hm : P.follows .mixedOrders = true)
    (hB : (Region.noSelect ops && decide (t.len ≤ ops.size) && t.ok .any ops (Array.replicate ops.size false)) = true)
    (h : ∀ W, Off [] w W → S W ∧ wpTr P ops (Q .normal) t S a W) : (Code.region id ops true).wp P Q a w := by
  simp only [Bool.and_eq_true, decide_eq_true_eq] at hB
  refine Code.wp_mono nml_imp (wp_region_held (S := S) hm ?_)
  obtain ⟨h1, h2⟩ := h { w with drawn := w.drawn + 1 } (off_ext (Below.refl _ _).drew)
  exact wpTr_sound (Q := Nml (Q .normal)) hB.1.1 nml_put t S _ _ _ _ hB.2 hB.1.2 h1 h2
def putL (a : Act) (l : List (Tmp × Value)) : Act := l.foldl (fun a p => a.put (some p.1) p.2) a
/-- A region by a plan of which the branches meet again. -/
theorem wp_region_trj {id : Nat} {a : Act} {w : World} {Q : Exit → Act → World → Prop} (t : Tr) (S : World → Prop) (R : Act → Act → World → Prop) (hm : P.follows .mixedOrders = true)
    (hB : (Region.noSelect ops && decide (t.len ≤ ops.size) && t.ok .any ops (Array.replicate ops.size false)) = true)
    (h : ∀ W, Off [] w W → S W ∧ wpTr P ops (R a) t S a W) (hk : ∀ a' w', R a a' w' → Q .normal a' w') : (Code.region id ops true).wp P Q a w := by
  have h1 : (Code.region id ops true).wp P (Nml (R a)) a w := wp_region_tr (Q := Nml (R a)) t S hm hB h
  exact Code.wp_mono (fun e a' w' h' => by cases e <;> first | exact hk _ _ h' | exact (h' : False).elim) h1
/-- A region in the order of the text, of which several ways meet again behind it. -/
theorem wp_region_litj {id : Nat} {a : Act} {w : World} {Q : Exit → Act → World → Prop} {l : List Oper} (R : Act → Act → World → Prop)
    (h : wpList P l.toArray (Nml (R a)) l a w) (hk : ∀ a' w', R a a' w' → Q .normal a' w') : (Code.region id l.toArray false).wp P Q a w := by
  have h1 : (Code.region id l.toArray false).wp P (Nml (R a)) a w := wp_region_lit h
  exact Code.wp_mono (fun e a' w' h' => by cases e <;> first | exact hk _ _ h' | exact (h' : False).elim) h1
section
variable {K : Act → World → Prop} {t u : Tr} {S : World → Prop} {a : Act} {w : World} {o : Oper} {i : Nat}
theorem wpT_z (h : K a w) : wpTr P ops K .z S a w := h
theorem wpT_q {v : Value} (ho : ops.toList[i]? = some o) (hw : Region.wanted o (yielded ops a.tmps) = true) (hv : ∀ W, S W → (execOp a.eval o).run P W = .ok (.value v) W) (h : wpTr P ops K t S (a.put o.dst v) w) : wpTr P ops K (.q i t) S a w :=
  ⟨o, ho, v, .inl ⟨hw, hv⟩, h⟩
theorem wpT_skip (ho : ops.toList[i]? = some o) (hw : Region.wanted o (yielded ops a.tmps) = false) (h : wpTr P ops K t S (a.put o.dst undef) w) : wpTr P ops K (.q i t) S a w :=
  ⟨o, ho, undef, .inr ⟨hw, rfl⟩, h⟩
theorem wpT_e (ho : ops.toList[i]? = some o) (h : wpList P ops (Nml fun a' w' => ∃ S' : World → Prop, (∀ W, S' W → S W) ∧ S' w' ∧ wpTr P ops K t S' a' w') [o] a w) : wpTr P ops K (.e i t) S a w := ⟨o, ho, h⟩
theorem wpT_b {j : Nat} {o2 : Oper} (ho : ops.toList[i]? = some o) (ho2 : ops.toList[j]? = some o2) (h : wpList P ops (Nml fun a' w' => ∃ S' : World → Prop, (∀ W, S' W → S W) ∧ S' w' ∧ wpTr P ops K t S' a' w') [o] a w)
    (h2 : wpList P ops (Nml fun a' w' => ∃ S' : World → Prop, (∀ W, S' W → S W) ∧ S' w' ∧ wpTr P ops K u S' a' w') [o2] a w) : wpTr P ops K (.b i t j u) S a w := ⟨⟨o, ho, h⟩, ⟨o2, ho2, h2⟩⟩
theorem wpT_c {x : Tr} {j k : Nat} {o2 o3 : Oper} (ho : ops.toList[i]? = some o) (ho2 : ops.toList[j]? = some o2) (ho3 : ops.toList[k]? = some o3) (h : wpList P ops (Nml fun a' w' => ∃ S' : World → Prop, (∀ W, S' W → S W) ∧ S' w' ∧ wpTr P ops K t S' a' w') [o] a w) (h2 : wpList P ops (Nml fun a' w' => ∃ S' : World → Prop, (∀ W, S' W → S W) ∧ S' w' ∧ wpTr P ops K u S' a' w') [o2] a w) (h3 : wpList P ops (Nml fun a' w' => ∃ S' : World → Prop, (∀ W, S' W → S W) ∧ S' w' ∧ wpTr P ops K x S' a' w') [o3] a w) : wpTr P ops K (.c i t j u k x) S a w := ⟨⟨o, ho, h⟩, ⟨o2, ho2, h2⟩, ⟨o3, ho3, h3⟩⟩
/-- What the operation behind an effect begins with. -/
theorem wpT_n (S' : World → Prop) (h1 : ∀ W, S' W → S W) (h2 : S' w) (h : wpTr P ops K t S' a w) : wpList P ops (Nml fun a' w' => ∃ S' : World → Prop, (∀ W, S' W → S W) ∧ S' w' ∧ wpTr P ops K t S' a' w') [] a w := ⟨S', h1, h2, h⟩
end
/-! ### Loads -/
theorem run_at {a : Act} {W : World} {o : Oper} {ad : Addr} {v : Value} {ty : TypeId} {x : Operand} (ho : o.op = .load ty x) (hx : a.eval x = .pointer (some ad)) (hc : W.cell? ad = some v)
    (hk : (P.underlying ty).map TypeDesc.isRow = some false) : (execOp a.eval o).run P W = .ok (.value v) W := by
  cases hu : P.underlying ty with
  | none => simp [hu] at hk
  | some d =>
    have hd : d.isRow = false := by simpa [hu] using hk
    unfold execOp
    simp only [ho, hx]
    cases d <;> simp_all [Instr.loadAt, Instr.sureAddr, Sem.run_bind, Sem.run_pure, Result.andThen_ok, run_underlying hu, TypeDesc.isRow]
    all_goals simp [loadVar, isAgg, Sem.run_bind, Sem.run_pure, Result.andThen_ok, run_underlying hu, TypeDesc.isRow, hc]
/-- a load of cells in a row -/
theorem run_atrow {a : Act} {W : World} {o : Oper} {b j : Nat} {vs : List Value} {ty : TypeId} {x : Operand} (ho : o.op = .load ty x) (hx : a.eval x = .pointer (some ⟨b, j, none⟩)) (hc : ∀ i v, vs[i]? = some v → W.cell? ⟨b, j + i, none⟩ = some v)
    (hk : (P.underlying ty).map TypeDesc.isRow = some true) (hi : (P.info? ty).map (·.size) = some vs.length) : (execOp a.eval o).run P W = .ok (.value (.agg vs.toArray)) W := by
  cases hu : P.underlying ty with
  | none => simp [hu] at hk
  | some d =>
    have hd : d.isRow = true := by simpa [hu] using hk
    have := run_loadAt_mid (P := P) W b j ty vs d hc hu (by cases d <;> simp_all [TypeDesc.isRow]) hi
    simp [execOp, ho, hx, Sem.run_bind, this]
theorem run_row0 {a : Act} {W : World} {o : Oper} {b : Nat} {cs : Array Value} {t ty : TypeId} {x : Operand} (ho : o.op = .load ty x) (hx : a.eval x = .pointer (some ⟨b, 0, none⟩)) (hB : Blk W b cs t)
    (hk : (P.underlying ty).map TypeDesc.isRow = some true) (hi : (P.info? ty).map (·.size) = some cs.size) : (execOp a.eval o).run P W = .ok (.value (.agg cs)) W :=
  run_atrow (vs := cs.toList) ho hx (fun i v hv => by rw [blk_cell hB, Nat.zero_add]; simpa using hv) hk (by simpa using hi)
end
end Go.Proofs.Yteniajdmmffamaa
