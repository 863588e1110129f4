/- Regions whose order Go leaves open, by a plan: quiet operations (one value in every world that meets S; they change nothing) come first, the others in whatever order the edges leave (a tree of choices). No conditions. Steps by a plan for texts and byte slices. No conditions. Rows of elements of any one type: their cells, appending to them, reading them. No conditions. -/
import Derived.Test.YtejkmhgkkibafaaGreatDoorGc
import Derived.Great.BuildSlice
set_option linter.unusedSimpArgs false
set_option linter.unusedVariables false
namespace Go.Proofs.YtejkmhgkkibafaaGreatDoor
open Go.RowKit

/-- A plan: a quiet operation, one that does something, a choice of two, the end. -/
inductive Tr where
  | z : Tr
  | q : Nat → Tr → Tr
  | e : Nat → Tr → Tr
  | b : Nat → Tr → Nat → Tr → Tr
  | c : Nat → Tr → Nat → Tr → Nat → Tr → Tr
def Tr.len : Tr → Nat
  | .z => 0
  | .q _ t => t.len + 1
  | .e _ t => t.len + 1
  | .b _ t _ u => max t.len u.len + 1
  | .c _ t _ u _ x => max (max t.len u.len) x.len + 1
def Tr.ok (md : Region.Mode) (ops : Array Oper) : Tr → Array Bool → Bool
  | .z, L => (Region.ready md ops L).isEmpty
  | .q i t, L => (Region.ready md ops L).contains i && Region.free md ops L i && t.ok md ops (L.setIfInBounds i true)
  | .e i t, L => decide (Region.ready md ops L = [i]) && t.ok md ops (L.setIfInBounds i true)
  | .b i t j u, L => decide (Region.ready md ops L = [i, j]) && t.ok md ops (L.setIfInBounds i true) && u.ok md ops (L.setIfInBounds j true)
  | .c i t j u k x, L => decide (Region.ready md ops L = [i, j, k]) && t.ok md ops (L.setIfInBounds i true) && u.ok md ops (L.setIfInBounds j true) && x.ok md ops (L.setIfInBounds k true)
/-- A post that asks for the ordinary end. -/
def Nml (K : Act → World → Prop) : Exit → Act → World → Prop
  | .normal, a, w => K a w
  | _, _, _ => False
theorem nml_out {K : Act → World → Prop} (h : LetsOut (Nml K)) : False := by
  obtain ⟨a, w, h⟩ := h
  exact h
theorem nml_imp {Q : Exit → Act → World → Prop} : ∀ (e : Exit) (a : Act) (w : World), Nml (Q .normal) e a w → Q e a w := fun e a w h => by
  cases e <;> first | exact h | exact (h : False).elim
section
variable {P : Program} {ops : Array Oper} {md : Region.Mode}
def wpTr (P : Program) (ops : Array Oper) (K : Act → World → Prop) : Tr → (World → Prop) → Act → World → Prop
  | .z, _, a, w => K a w
  | .q i t, S, a, w => ∃ o, ops.toList[i]? = some o ∧ ∃ v, YieldsIf P ops S o v a ∧ wpTr P ops K t S (a.put o.dst v) w
  | .e i t, S, a, w => ∃ o, ops.toList[i]? = some o ∧ wpList P ops (Nml fun a' w' => ∃ S' : World → Prop, (∀ W, S' W → S W) ∧ S' w' ∧ wpTr P ops K t S' a' w') [o] a w
  | .b i t j u, S, a, w => (∃ o, ops.toList[i]? = some o ∧ wpList P ops (Nml fun a' w' => ∃ S' : World → Prop, (∀ W, S' W → S W) ∧ S' w' ∧ wpTr P ops K t S' a' w') [o] a w) ∧
      (∃ o, ops.toList[j]? = some o ∧ wpList P ops (Nml fun a' w' => ∃ S' : World → Prop, (∀ W, S' W → S W) ∧ S' w' ∧ wpTr P ops K u S' a' w') [o] a w)
  | .c i t j u k x, S, a, w => (∃ o, ops.toList[i]? = some o ∧ wpList P ops (Nml fun a' w' => ∃ S' : World → Prop, (∀ W, S' W → S W) ∧ S' w' ∧ wpTr P ops K t S' a' w') [o] a w) ∧ (∃ o, ops.toList[j]? = some o ∧ wpList P ops (Nml fun a' w' => ∃ S' : World → Prop, (∀ W, S' W → S W) ∧ S' w' ∧ wpTr P ops K u S' a' w') [o] a w) ∧ (∃ o, ops.toList[k]? = some o ∧ wpList P ops (Nml fun a' w' => ∃ S' : World → Prop, (∀ W, S' W → S W) ∧ S' w' ∧ wpTr P ops K x S' a' w') [o] a w)
theorem wpOp_of_one {i : Nat} {o : Oper} {K K' : Act → World → Prop} {a : Act} {w : World} (ho : ops[i]? = some o) (h : wpList P ops (Nml K) [o] a w) (hm : ∀ a w, K a w → K' a w) {Q : Exit → Act → World → Prop} :
    wpOp P ops Q i K' a w := by
  unfold wpOp
  simp only [ho]
  unfold wpList at h
  split
  · rename_i hw
    rw [if_pos hw] at h
    rcases h with h | ⟨_, h⟩
    · refine .inl ?_
      unfold Oper.wp at *
      generalize (execOp a.eval o).run P w = r at *
      cases r with
      | ok n w' =>
        cases n <;> simp only [Oper.upon] at h ⊢
        case value u => exact hm _ _ h
        case skip => exact hm _ _ h
        case defer d => exact hm _ _ h
        case enter f args =>
          refine Calls.mono h fun e w'' he => ?_
          cases e with
          | returned u => exact hm _ _ he
          | panicked c => exact (he : False).elim
          | outgrown => exact (nml_out he).elim
        case row row args => exact Rows.mono h fun u w'' he => hm _ _ he
      | halt x w' =>
        cases x <;> simp only [Oper.upon] at h ⊢
        case panic u => exact (h : False).elim
    · exact (nml_out h).elim
  · rename_i hw
    rw [if_neg hw] at h
    exact hm _ _ h
theorem wpAnyH_weaken {Q : Exit → Act → World → Prop} {S S' : World → Prop} (hS : ∀ W, S' W → S W) : ∀ (f : Nat) (L : Array Bool) (a : Act) (w : World), wpAnyH P md ops Q S' f L a w → wpAnyH P md ops Q S f L a w
  | 0, _, _, _, h => h
  | f + 1, _, _, _, h => ⟨h.1, fun i hi => wpOp_mono (fun a' w' h' => ⟨hS _ h'.1, wpAnyH_weaken hS f _ a' w' h'.2⟩) (h.2 i hi)⟩
theorem wpTr_sound {Q : Exit → Act → World → Prop} (hs : Region.noSelect ops = true) (hQ : ∀ c a d v w, Q (.panic c) (a.put d v) w → Q (.panic c) a w) :
    ∀ (t : Tr) (S : World → Prop) (f : Nat) (L : Array Bool) (a : Act) (w : World), t.ok md ops L = true → t.len ≤ f → S w → wpTr P ops (Q .normal) t S a w → wpAnyH P md ops Q S f L a w
  | .z, S, f, L, a, w, hk, _, _, h => wpAnyH_done (by simpa [Tr.ok] using hk) h f
  | .q i t, S, 0, L, a, w, _, hl, _, _ => by simp [Tr.len] at hl
  | .q i t, S, f + 1, L, a, w, hk, hl, hS, h => by
    simp only [Tr.ok, Bool.and_eq_true] at hk
    obtain ⟨o, ho, v, hy, h⟩ := h
    exact wpAnyH_take (by simpa using ho) hs hk.1.2 hk.1.1 (fun c a w h => hQ c a _ _ w h) hy hS (wpTr_sound hs hQ t S f _ _ w hk.2 (by simp [Tr.len] at hl; omega) hS h)
  | .e i t, S, 0, L, a, w, _, hl, _, _ => by simp [Tr.len] at hl
  | .e i t, S, f + 1, L, a, w, hk, hl, hS, h => by
    simp only [Tr.ok, Bool.and_eq_true, decide_eq_true_eq] at hk
    obtain ⟨o, ho, h⟩ := h
    refine wpAnyH_all hk.1 (by simp) fun k hk' => ?_
    rw [List.mem_singleton] at hk'
    subst hk'
    exact wpOp_of_one (by simpa using ho) h fun a' w' ⟨S', h1, h2, h3⟩ => ⟨h1 _ h2, wpAnyH_weaken h1 _ _ _ _ (wpTr_sound hs hQ t S' f _ _ w' hk.2 (by simp [Tr.len] at hl; omega) h2 h3)⟩
  | .b i t j u, S, 0, L, a, w, _, hl, _, _ => by simp [Tr.len] at hl
  | .b i t j u, S, f + 1, L, a, w, hk, hl, hS, h => by
    simp only [Tr.ok, Bool.and_eq_true, decide_eq_true_eq] at hk
    obtain ⟨⟨o, ho, h⟩, ⟨o2, ho2, h2⟩⟩ := h
    refine wpAnyH_all hk.1.1 (by simp) fun k hk' => ?_
    have hk2 : k = i ∨ k = j := by simpa using hk'
    rcases hk2 with e | e
    · subst e
      exact wpOp_of_one (by simpa using ho) h fun a' w' ⟨S', h1, h2, h3⟩ => ⟨h1 _ h2, wpAnyH_weaken h1 _ _ _ _ (wpTr_sound hs hQ t S' f _ _ w' hk.1.2 (by simp [Tr.len] at hl; omega) h2 h3)⟩
    · subst e
      exact wpOp_of_one (by simpa using ho2) h2 fun a' w' ⟨S', h1, h2, h3⟩ => ⟨h1 _ h2, wpAnyH_weaken h1 _ _ _ _ (wpTr_sound hs hQ u S' f _ _ w' hk.2 (by simp [Tr.len] at hl; omega) h2 h3)⟩
  | .c i t j u k x, S, 0, L, a, w, _, hl, _, _ => by simp [Tr.len] at hl
  | .c i t j u k x, S, f + 1, L, a, w, hk, hl, hS, h => by
    simp only [Tr.ok, Bool.and_eq_true, decide_eq_true_eq] at hk
    simp only [Tr.len] at hl
    obtain ⟨⟨o, ho, h⟩, ⟨o2, ho2, h2⟩, ⟨o3, ho3, h3⟩⟩ := h
    refine wpAnyH_all hk.1.1.1 (by simp) fun m hm => ?_
    have hm2 : m = i ∨ m = j ∨ m = k := by simpa using hm
    rcases hm2 with e | e | e
    · subst e
      exact wpOp_of_one (by simpa using ho) h fun a' w' ⟨S', h1, h2, h3⟩ => ⟨h1 _ h2, wpAnyH_weaken h1 _ _ _ _ (wpTr_sound hs hQ t S' f _ _ w' hk.1.1.2 (by omega) h2 h3)⟩
    · subst e
      exact wpOp_of_one (by simpa using ho2) h2 fun a' w' ⟨S', h1, h2, h3⟩ => ⟨h1 _ h2, wpAnyH_weaken h1 _ _ _ _ (wpTr_sound hs hQ u S' f _ _ w' hk.1.2 (by omega) h2 h3)⟩
    · subst e
      exact wpOp_of_one (by simpa using ho3) h3 fun a' w' ⟨S', h1, h2, h3⟩ => ⟨h1 _ h2, wpAnyH_weaken h1 _ _ _ _ (wpTr_sound hs hQ x S' f _ _ w' hk.2 (by omega) h2 h3)⟩
theorem nml_put {K : Act → World → Prop} : ∀ c (a : Act) d v w, Nml K (.panic c) (a.put d v) w → Nml K (.panic c) a w := fun _ _ _ _ _ h => h
/-- A region by a plan. -/
theorem wp_region_tr {id : Nat} {a : Act} {w : World} {Q : Exit → Act → World → Prop} (t : Tr) (S : World → Prop) (hm : P.follows .mixedOrders = true)
    (hB : (Region.noSelect ops && decide (t.len ≤ ops.size) && t.ok .any ops (Array.replicate ops.size false)) = true)
    (h : ∀ W, Off [] w W → S W ∧ wpTr P ops (Q .normal) t S a W) : (Code.region id ops true).wp P Q a w := by
  simp only [Bool.and_eq_true, decide_eq_true_eq] at hB
  refine Code.wp_mono nml_imp (wp_region_held (S := S) hm ?_)
  obtain ⟨h1, h2⟩ := h { w with drawn := w.drawn + 1 } (off_ext (Below.refl _ _).drew)
  exact wpTr_sound (Q := Nml (Q .normal)) hB.1.1 nml_put t S _ _ _ _ hB.2 hB.1.2 h1 h2
def putL (a : Act) (l : List (Tmp × Value)) : Act := l.foldl (fun a p => a.put (some p.1) p.2) a
/-- A region by a plan of which the branches meet again. -/
theorem wp_region_trj {id : Nat} {a : Act} {w : World} {Q : Exit → Act → World → Prop} (t : Tr) (S : World → Prop) (R : Act → Act → World → Prop) (hm : P.follows .mixedOrders = true)
    (hB : (Region.noSelect ops && decide (t.len ≤ ops.size) && t.ok .any ops (Array.replicate ops.size false)) = true)
    (h : ∀ W, Off [] w W → S W ∧ wpTr P ops (R a) t S a W) (hk : ∀ a' w', R a a' w' → Q .normal a' w') : (Code.region id ops true).wp P Q a w := by
  have h1 : (Code.region id ops true).wp P (Nml (R a)) a w := wp_region_tr (Q := Nml (R a)) t S hm hB h
  exact Code.wp_mono (fun e a' w' h' => by cases e <;> first | exact hk _ _ h' | exact (h' : False).elim) h1
section
variable {K : Act → World → Prop} {t u : Tr} {S : World → Prop} {a : Act} {w : World} {o : Oper} {i : Nat}
theorem wpT_z (h : K a w) : wpTr P ops K .z S a w := h
theorem wpT_q {v : Value} (ho : ops.toList[i]? = some o) (hw : Region.wanted o (yielded ops a.tmps) = true) (hv : ∀ W, S W → (execOp a.eval o).run P W = .ok (.value v) W) (h : wpTr P ops K t S (a.put o.dst v) w) : wpTr P ops K (.q i t) S a w :=
  ⟨o, ho, v, .inl ⟨hw, hv⟩, h⟩
theorem wpT_skip (ho : ops.toList[i]? = some o) (hw : Region.wanted o (yielded ops a.tmps) = false) (h : wpTr P ops K t S (a.put o.dst undef) w) : wpTr P ops K (.q i t) S a w :=
  ⟨o, ho, undef, .inr ⟨hw, rfl⟩, h⟩
theorem wpT_e (ho : ops.toList[i]? = some o) (h : wpList P ops (Nml fun a' w' => ∃ S' : World → Prop, (∀ W, S' W → S W) ∧ S' w' ∧ wpTr P ops K t S' a' w') [o] a w) : wpTr P ops K (.e i t) S a w := ⟨o, ho, h⟩
theorem wpT_b {j : Nat} {o2 : Oper} (ho : ops.toList[i]? = some o) (ho2 : ops.toList[j]? = some o2) (h : wpList P ops (Nml fun a' w' => ∃ S' : World → Prop, (∀ W, S' W → S W) ∧ S' w' ∧ wpTr P ops K t S' a' w') [o] a w)
    (h2 : wpList P ops (Nml fun a' w' => ∃ S' : World → Prop, (∀ W, S' W → S W) ∧ S' w' ∧ wpTr P ops K u S' a' w') [o2] a w) : wpTr P ops K (.b i t j u) S a w := ⟨⟨o, ho, h⟩, ⟨o2, ho2, h2⟩⟩
theorem wpT_c {x : Tr} {j k : Nat} {o2 o3 : Oper} (ho : ops.toList[i]? = some o) (ho2 : ops.toList[j]? = some o2) (ho3 : ops.toList[k]? = some o3) (h : wpList P ops (Nml fun a' w' => ∃ S' : World → Prop, (∀ W, S' W → S W) ∧ S' w' ∧ wpTr P ops K t S' a' w') [o] a w) (h2 : wpList P ops (Nml fun a' w' => ∃ S' : World → Prop, (∀ W, S' W → S W) ∧ S' w' ∧ wpTr P ops K u S' a' w') [o2] a w) (h3 : wpList P ops (Nml fun a' w' => ∃ S' : World → Prop, (∀ W, S' W → S W) ∧ S' w' ∧ wpTr P ops K x S' a' w') [o3] a w) : wpTr P ops K (.c i t j u k x) S a w := ⟨⟨o, ho, h⟩, ⟨o2, ho2, h2⟩, ⟨o3, ho3, h3⟩⟩
/-- What the operation behind an effect begins with. -/
theorem wpT_n (S' : World → Prop) (h1 : ∀ W, S' W → S W) (h2 : S' w) (h : wpTr P ops K t S' a w) : wpList P ops (Nml fun a' w' => ∃ S' : World → Prop, (∀ W, S' W → S W) ∧ S' w' ∧ wpTr P ops K t S' a' w') [] a w := ⟨S', h1, h2, h⟩
end
/-! ### Loads -/
theorem run_at {a : Act} {W : World} {o : Oper} {ad : Addr} {v : Value} {ty : TypeId} {x : Operand} (ho : o.op = .load ty x) (hx : a.eval x = .pointer (some ad)) (hc : W.cell? ad = some v)
    (hk : (P.underlying ty).map TypeDesc.isRow = some false) : (execOp a.eval o).run P W = .ok (.value v) W := by
  cases hu : P.underlying ty with
  | none => simp [hu] at hk
  | some d =>
    have hd : d.isRow = false := by simpa [hu] using hk
    unfold execOp
    simp only [ho, hx]
    cases d <;> simp_all [Instr.loadAt, Instr.sureAddr, Sem.run_bind, Sem.run_pure, Result.andThen_ok, run_underlying hu, TypeDesc.isRow]
    all_goals simp [loadVar, isAgg, Sem.run_bind, Sem.run_pure, Result.andThen_ok, run_underlying hu, TypeDesc.isRow, hc]
/-- a load of cells in a row -/
theorem run_atrow {a : Act} {W : World} {o : Oper} {b j : Nat} {vs : List Value} {ty : TypeId} {x : Operand} (ho : o.op = .load ty x) (hx : a.eval x = .pointer (some ⟨b, j, none⟩)) (hc : ∀ i v, vs[i]? = some v → W.cell? ⟨b, j + i, none⟩ = some v)
    (hk : (P.underlying ty).map TypeDesc.isRow = some true) (hi : (P.info? ty).map (·.size) = some vs.length) : (execOp a.eval o).run P W = .ok (.value (.agg vs.toArray)) W := by
  cases hu : P.underlying ty with
  | none => simp [hu] at hk
  | some d =>
    have hd : d.isRow = true := by simpa [hu] using hk
    have := run_loadAt_mid (P := P) W b j ty vs d hc hu (by cases d <;> simp_all [TypeDesc.isRow]) hi
    simp [execOp, ho, hx, Sem.run_bind, this]
theorem run_row0 {a : Act} {W : World} {o : Oper} {b : Nat} {cs : Array Value} {t ty : TypeId} {x : Operand} (ho : o.op = .load ty x) (hx : a.eval x = .pointer (some ⟨b, 0, none⟩)) (hB : Blk W b cs t)
    (hk : (P.underlying ty).map TypeDesc.isRow = some true) (hi : (P.info? ty).map (·.size) = some cs.size) : (execOp a.eval o).run P W = .ok (.value (.agg cs)) W :=
  run_atrow (vs := cs.toList) ho hx (fun i v hv => by rw [blk_cell hB, Nat.zero_add]; simpa using hv) hk (by simpa using hi)
end
end Go.Proofs.YtejkmhgkkibafaaGreatDoor

namespace Go.Proofs.YtejkmhgkkibafaaGreatDoor
open Go.RowKit
section
variable {w W : World} {o : Oper} {a : Act} {x y : Operand} {v u : Value} {l : List UInt8}
theorem run_cvs (h : Sl W v l) (ho : o.op = .convert 22 9 x) (hx : a.eval x = v) : (execOp a.eval o).run Tryz.prog W = .ok (.value (str l)) W := by
  simp [execOp, ho, hx, Sem.run_bind, run_str h]
theorem run_lenA (hs : Sl w v l) (ho : o.op = .call { callee := .builtin .len, args := #[x], argTypes := #[22] }) (hx : a.eval x = v) : (execOp a.eval o).run Tryz.prog W = .ok (.value (.int .i64 (l.length : Int))) W := by
  obtain ⟨A, c, rfl, _⟩ := hs
  unfold execOp
  simp only [ho, resolve, invoke, builtin, Sem.run_bind, Sem.run_pure, Result.andThen_ok, List.map_toArray, List.map_cons, List.map_nil, hx]
  simp [Builtin.len_, run_underlying Tryz.underlying22, goInt, Sem.run_bind]
theorem run_streqb {t : TypeId} {l m : List UInt8} {b : Bool} (hb : decide (l = m) = b) (ho : o.op = .binOp .eql 9 x y t) (hx : a.eval x = str l) (hy : a.eval y = str m) : (execOp a.eval o).run Tryz.prog W = .ok (.value (.bool b)) W := hb ▸ run_streq ho hx hy
end
end Go.Proofs.YtejkmhgkkibafaaGreatDoor

namespace Go.Proofs.YtejkmhgkkibafaaGreatDoor
open Go.RowKit
/-- The value v is a row of the call's own, of the elements es (their cells), that may be appended to. -/
def Row (t : TypeId) (k : Nat) (w : World) (v : Value) (es : List (List Value)) : Prop := w.ownsRow 0 t k v es.length es.flatten ∧ ∀ e ∈ es, e.length = k
section
variable {t : TypeId} {k : Nat} {w : World} {v : Value} {es : List (List Value)}
theorem Row.off {F : List Nat} {w' : World} (h : Row t k w v es) (q : Off F w w') (hF : ∀ b ∈ F, v.ownBlock ≠ some b) : Row t k w' v es := by
  refine ⟨⟨h.1.1, h.1.2.imp id ?_⟩, h.2⟩
  rintro ⟨g, cap, cur, rfl, hb, hh, r⟩
  exact ⟨g, cap, cur, rfl, hb, by rw [q.block g (lt_of_block hh) (fun hx => hF g hx rfl)]; exact hh, r⟩
theorem Row.lt (h : Row t k w v es) : ∀ g, v.ownBlock = some g → g < w.heap.size := by
  intro g hg
  rcases h.1.2 with ⟨rfl, _⟩ | ⟨g', cap, cur, rfl, _, hh, _⟩
  · cases hg
  · obtain rfl : g' = g := Option.some.inj hg
    exact lt_of_block hh
theorem row_nil (t : TypeId) (k : Nat) (w : World) : Row t k w (.slice none 0 0) [] := ⟨⟨by simp, .inl ⟨rfl, rfl⟩⟩, by simp⟩
theorem Row.len (h : Row t k w v es) : ∃ A c, v = .slice A es.length c ∧ es.length ≤ c := by
  rcases h.1.2 with ⟨rfl, hn⟩ | ⟨g, cap, cur, rfl, _, hh, hc, _⟩
  · exact ⟨none, 0, by rw [hn], by omega⟩
  · exact ⟨_, _, rfl, hc⟩
theorem Row.cells (h : Row t k w v es) : v.cells = #[v] ∧ v.oneCell' = true := by
  obtain ⟨A, c, rfl, _⟩ := h.len
  exact ⟨rfl, rfl⟩
theorem flat_at {k : Nat} : ∀ (es : List (List Value)) (j i : Nat) (e : List Value), (∀ e ∈ es, e.length = k) → es[j]? = some e → i < k → es.flatten[j * k + i]? = e[i]?
  | [], _, _, _, _, h, _ => by simp at h
  | x :: es, 0, i, e, hl, h, hi => by
    have hx := hl x (by simp)
    have : x = e := by simpa using h
    subst this
    rw [List.flatten_cons, Nat.zero_mul, Nat.zero_add, List.getElem?_append_left (by omega)]
  | x :: es, j + 1, i, e, hl, h, hi => by
    have hx := hl x (by simp)
    have := flat_at es j i e (fun e he => hl e (by simp [he])) (by simpa using h) hi
    rw [List.flatten_cons, List.getElem?_append_right (by rw [hx, Nat.add_mul]; omega), hx, show (j + 1) * k + i - k = j * k + i by rw [Nat.add_mul]; omega]
    exact this
/-- cell i of element j -/
theorem Row.at (h : Row t k w v es) {j : Nat} {e : List Value} (hj : es[j]? = some e) : ∃ g c, v = .slice (some ⟨g, 0, none⟩) es.length c ∧ ∀ i x, e[i]? = some x → w.cell? ⟨g, j * k + i, none⟩ = some x := by
  have hlt := (List.getElem?_eq_some_iff.1 hj).1
  rcases h.1.2 with ⟨rfl, hn⟩ | ⟨g, cap, cur, rfl, _, hh, hc, hm, hs, ht⟩
  · omega
  · refine ⟨g, cap, rfl, fun i x hx => ?_⟩
    have he : e.length = k := h.2 e (List.mem_of_getElem? hj)
    have hi : i < k := by have := (List.getElem?_eq_some_iff.1 hx).1; omega
    have hf := flat_at es j i e h.2 hj hi
    have hlen : j * k + i < es.length * k := by
      have : (j + 1) * k ≤ es.length * k := Nat.mul_le_mul_right k hlt
      rw [Nat.add_mul] at this; omega
    rw [cell_of_row w g _ cur _ _ hh]
    rw [← ht, List.getElem?_take_of_lt hlen] at hf
    rw [← hx, ← hf]; simp
theorem row_blk {g : Nat} {cs : Array Value} (h : Blk w g cs t) (hc : cs.toList = es.flatten) (hl : ∀ e ∈ es, e.length = k) (hm : es.length ≤ maxLen) : Row t k w (.slice (some ⟨g, 0, none⟩) es.length es.length) es := by
  have hlen : es.flatten.length = es.length * k := by
    clear hc hm
    induction es with
    | nil => simp
    | cons x r ih => rw [List.flatten_cons, List.length_append, hl x (by simp), ih (fun e he => hl e (by simp [he])), List.length_cons, Nat.add_mul]; omega
  have hs : cs.size = es.length * k := by rw [← Array.length_toList, hc, hlen]
  exact ⟨⟨hlen, .inr ⟨g, es.length, cs, rfl, Nat.zero_le _, h, Nat.le_refl _, hm, hs, by rw [hc, List.take_of_length_le (by omega)]⟩⟩, hl⟩
end
theorem vs0 : ∀ v ∈ ([] : List Value), v.cells = #[v] := by simp
theorem vsc {x : Value} {r : List Value} (h : x.cells = #[x]) (k : ∀ v ∈ r, v.cells = #[v]) : ∀ v ∈ x :: r, v.cells = #[v] := by
  intro v hv
  rcases List.mem_cons.1 hv with rfl | hv
  · exact h
  · exact k v hv
theorem info_cells {P : Program} {t : TypeId} {k b : Nat} (h : (P.info? t).map (fun i => (i.zero.map (·.cells.size), i.size, i.bytes)) = some (some k, k, b)) : ∃ i z, P.info? t = some i ∧ i.zero = some z ∧ i.size = k ∧ i.bytes = b ∧ z.cells.size = k := by
  cases hi : P.info? t with
  | none => simp [hi] at h
  | some i =>
    simp only [hi, Option.map_some, Option.some.injEq, Prod.mk.injEq] at h
    cases hz : i.zero with
    | none => simp [hz] at h
    | some z => exact ⟨i, z, rfl, hz, h.2.1, h.2.2, by simpa [hz] using h.1⟩
section
variable {P : Program} {ops : Array Oper} {Q : Exit → Act → World → Prop} {w : World} {l : List Oper} {o : Oper} {a : Act} {tS t t2 : TypeId} {k bytes : Nat} {s x : Operand} {v u : Value} {es : List (List Value)}
/-- one element is appended, from a block of its own -/
theorem wpL_append1 {g c : Nat} {cs : Array Value} (hw : Region.wanted o (yielded ops a.tmps) = true) (ho : o.op = .call { callee := .builtin .append, args := #[s, x], argTypes := #[tS, tS] }) (hs : a.eval s = v) (hx : a.eval x = .slice (some ⟨g, 0, none⟩) 1 c)
    (hown : Row t k w v es) (hB : Blk w g cs t2) (hk : cs.size = k) (h1 : cs.all (·.oneCell') = true) (hk0 : 0 < k) (ht : P.underlying tS = some (.slice t)) (hi : (P.info? t).map (fun i => (i.zero.map (·.cells.size), i.size, i.bytes)) = some (some k, k, bytes))
    (hlen : (es.length + 1) * bytes ≤ 140737488355328) (hl2 : es.length + 1 ≤ maxLen)
    (h : ∀ v' W, Row t k W v' (es ++ [cs.toList]) → Off v.ownBlock.toList w W → Of v'.ownBlock v.ownBlock w.heap.size → wpList P ops Q l (a.put o.dst v') W) : wpList P ops Q (o :: l) a w := by
  obtain ⟨i, z, hi, hz, hsz, hby, hzs⟩ := info_cells hi
  obtain ⟨v', W, hrun, h2, h3, h4, h5⟩ := run_append_own_at (P := P) w 0 tS o.type t i z k bytes ht hi hz hsz hby hzs hk0 v es.length es.flatten hown.1 ⟨g, 0, none⟩ 1 c cs.toList (by simp [hk])
    (fun j u hu => by rw [Addr.add_mid, blk_cell hB, Nat.zero_add]; simpa using hu) (fun u hu => Array.all_eq_true_iff_forall_mem.1 h1 u (by simpa using hu)) hl2 hlen (Nat.zero_le _)
  refine wpL_run hw (v := v') (W := W) ?_ (h v' W ⟨?_, ?_⟩ (off_grown h3) (of_or h5))
  · unfold execOp
    simp only [ho, resolve, invoke, builtin, Sem.run_bind, Sem.run_pure, Result.andThen_ok, List.map_toArray, List.map_cons, List.map_nil, hs, hx, hrun]
  · rw [List.length_append, List.flatten_append]; simpa using h2
  · intro e he
    rcases List.mem_append.1 he with he | he
    · exact hown.2 e he
    · rw [List.mem_singleton.1 he]; simpa using hk
/-- a row's length -/
theorem run_lenR {W : World} (hs : Row t k w v es) (ho : o.op = .call { callee := .builtin .len, args := #[x], argTypes := #[tS] }) (hx : a.eval x = v) (ht : P.underlying tS = some (.slice t)) : (execOp a.eval o).run P W = .ok (.value (.int .i64 (es.length : Int))) W := by
  obtain ⟨A, c, rfl, _⟩ := hs.len
  unfold execOp
  simp only [ho, resolve, invoke, builtin, Sem.run_bind, Sem.run_pure, Result.andThen_ok, List.map_toArray, List.map_cons, List.map_nil, hx]
  simp [Builtin.len_, run_underlying ht, goInt, Sem.run_bind]
/-- the place of element j -/
theorem run_ixR {W : World} {y : Operand} {kk : IntKind} {ad : Addr} {n c j : Nat} (hj : j < n) (ho : o.op = .indexAddr tS x y) (hx : a.eval x = .slice (some ad) n c) (hy : a.eval y = .int kk (j : Int)) (ht : P.underlying tS = some (.slice t)) (hi : (P.info? t).map (·.size) = some k) :
    (execOp a.eval o).run P W = .ok (.value (.pointer (some (ad.add (j * k))))) W := by
  cases hq : P.info? t with
  | none => simp [hq] at hi
  | some i =>
    have hs : i.size = k := by simpa [hq] using hi
    simp [execOp, ho, hx, hy, Instr.indexAt, asIntOf, run_underlying ht, Sem.run_bind, sizeOf, typeInfo, hq, hs, hj]
/-- a slice literal of values of one cell each -/
theorem run_bsv {e : TypeId} {len : Nat} {parts : Array (Nat × Operand)} (vs : List Value) (ho : o.op = .buildSlice tS len parts) (hp : parts.toList.map (fun p => (p.1, a.eval p.2)) = (vs.zipIdx 0).map fun x => (x.2, x.1)) (hv : ∀ v ∈ vs, v.cells = #[v])
    (hu : P.underlying tS = some (.slice e)) (hsz : (P.info? e).map (·.size) = some 1) (hz : ((P.info? e).bind (·.zero)).isSome = true) (hlen : len = vs.length) (hpos : 0 < len) (hsmall : len ≤ 2 ^ 24) :
    (execOp a.eval o).run P w = .ok (.value (.slice (some ⟨w.heap.size, 0, none⟩) len len)) (w.alloc (.cells vs.toArray e)) := by
  cases hie : P.info? e with
  | none => simp [hie] at hsz
  | some ie =>
    simp only [hie, Option.map_some, Option.some.injEq, Option.bind_some] at hsz hz
    obtain ⟨z, hzz⟩ := Option.isSome_iff_exists.1 hz
    unfold execOp
    simp only [ho, Sem.run_bind]
    rw [run_buildSlice w tS e len _ vs.toArray ie z hu hie hzz (by rw [hsz]; omega) (by rw [hsz]; omega) (by rw [Array.toList_map, hsz]; refine Eq.trans (congrArg (Instr.fill _ _) hp) ?_; exact Great.fill_flat _ _ hv (by simp [hlen]))]
    rfl
/-- a slice literal of one value of several cells -/
theorem run_bsA {e : TypeId} {parts : Array (Nat × Operand)} {x0 : Operand} {cs : Array Value} (ho : o.op = .buildSlice tS 1 parts) (hp : parts.toList = [(0, x0)]) (hx : a.eval x0 = .agg cs)
    (hu : P.underlying tS = some (.slice e)) (hsz : (P.info? e).map (·.size) = some cs.size) (hz : (P.info? e).map (fun i => i.zero.map (·.cells.size)) = some (some cs.size)) (hpos : 0 < cs.size) (hsmall : cs.size ≤ 2 ^ 24) :
    (execOp a.eval o).run P w = .ok (.value (.slice (some ⟨w.heap.size, 0, none⟩) 1 1)) (w.alloc (.cells cs e)) := by
  cases hie : P.info? e with
  | none => simp [hie] at hsz
  | some ie =>
    simp only [hie, Option.map_some, Option.some.injEq] at hsz hz
    cases hzz : ie.zero with
    | none => simp [hzz] at hz
    | some z =>
      obtain ⟨r, hr, hrs, hk⟩ := Great.fill_dense (s := cs.size) hpos [.agg cs] 0 ((Array.range (1 * cs.size)).map (z.cells[· % z.cells.size]!)) (fun v hv => by rw [List.mem_singleton.1 hv]; rfl) (by simp)
      have hrc : r = cs := by
        apply Array.ext_getElem?
        intro k
        rw [hk k]
        simp only [Nat.zero_mul, Nat.zero_le, true_and, List.length_cons, List.length_nil, Nat.zero_add, Nat.one_mul]
        by_cases hlt : k < cs.size
        · rw [if_pos hlt, Nat.div_eq_of_lt hlt, Nat.mod_eq_of_lt hlt]
          rfl
        · rw [if_neg hlt, Array.getElem?_eq_none (by simpa using hlt), Array.getElem?_eq_none (by simpa using hlt)]
      subst hrc
      unfold execOp
      simp only [ho, Sem.run_bind]
      rw [run_buildSlice w tS e 1 _ _ ie z hu hie hzz (by rw [hsz]; omega) (by rw [hsz]; omega) (by rw [Array.toList_map, hp, hsz]; simp only [List.map_cons, List.map_nil, hx]; exact hr)]
      rfl
end
end Go.Proofs.YtejkmhgkkibafaaGreatDoor
