/- Regions in the order of the text by the same walk as those whose order is open; stores and results of whole rows. No conditions. -/
import Derived.Test.YteniajdmmffamaaReg
import Derived.Test.YteniajdmmffamaaArr
import Derived.Deep.DeepCutAuto
import Derived.Lib.Hide
namespace Go.Proofs.Yteniajdmmffamaa
set_option linter.unusedSimpArgs false
set_option linter.unusedVariables false
open Go.RowKit
section
variable {P : Program} {ops : Array Oper} {Q : Exit → Act → World → Prop}
theorem Yx.wp {o : Oper} {a : Act} {w W : World} {v : Value} (hy : Yx P o a w v) (hW : Ext w W) {K : Act → World → Prop} (h : ∀ w', Ext W w' → K (a.put o.dst v) w') : o.wp P a W K Q := by
  have h1 := hy W hW
  unfold Oper.wp
  generalize (execOp a.eval o).run P W = r at *
  cases r with
  | ok n w' =>
    cases n <;> simp only [YxUpon] at h1 <;> simp only [Oper.upon]
    case value u => obtain ⟨rfl, rfl⟩ := h1; exact h _ (ext_refl _)
    case skip => obtain ⟨rfl, rfl⟩ := h1; exact h _ (ext_refl _)
    case enter f args =>
      obtain ⟨rfl, hc⟩ := h1
      exact hc.mono fun e w'' ⟨he, hw''⟩ => by subst he; exact h _ hw''
  | halt x w' => simp only [YxUpon] at h1
theorem wpX_list {w : World} {rest : List Oper} : ∀ (l : List Oper) (a : Act), wpX P ops w (fun a' => ∀ W, Ext w W → wpList P ops Q rest a' W) l a → ∀ W, Ext w W → wpList P ops Q (l ++ rest) a W
  | [], _, h, W, hW => h W hW
  | o :: l, a, ⟨v, hy, hk⟩, W, hW => by
    show wpList P ops Q (o :: (l ++ rest)) a W
    unfold wpList
    rcases hy with ⟨hw, hv⟩ | ⟨hw, rfl⟩
    · rw [if_pos hw]
      exact .inl (hv.wp hW fun w' hw' => wpX_list l _ hk w' (ext_trans hW hw'))
    · rw [if_neg (by rw [hw]; exact Bool.false_ne_true)]
      exact wpX_list l _ hk W hW
theorem news_list {l : List Oper} : ∀ (xs : List NewOp) (m : Nat) (a : Act) (W : World), (∀ x ∈ xs, newOk P l.toArray x) → xs.map (·.i) = List.range' m xs.length →
    (∀ (β : Nat → Nat) (W' : World), Ext W W' → (∀ x ∈ xs, W.heap.size ≤ β x.i ∧ Blk W' (β x.i) x.z x.t) → (∀ x ∈ xs, ∀ y ∈ xs, x.i ≠ y.i → β x.i ≠ β y.i) →
      wpList P l.toArray Q (l.drop (m + xs.length)) (putAll xs β a) W') → wpList P l.toArray Q (l.drop m) a W
  | [], _, _, W, _, _, h => h (fun _ => 0) W (ext_refl _) (fun x hx => by cases hx) (fun x hx => by cases hx)
  | x :: xs, m, a, W, hok, hi, h => by
    simp only [List.map_cons, List.length_cons, List.range'_succ, List.cons.injEq] at hi
    obtain ⟨hxi, hi⟩ := hi
    obtain ⟨o, ho, hg, hdst, hrun⟩ := hok x (by simp)
    have ho' : l[m]? = some o := by rw [← hxi]; simpa using ho
    have hm : m < l.length := (List.getElem?_eq_some_iff.1 ho').1
    have hge : l[m] = o := by rw [List.getElem?_eq_getElem hm] at ho'; exact Option.some.inj ho'
    rw [List.drop_eq_getElem_cons hm, hge]
    unfold wpList
    have hwant : Region.wanted o (yielded l.toArray a.tmps) = true := by unfold Region.wanted; rw [hg]
    rw [if_pos hwant]
    refine .inl ?_
    unfold Oper.wp
    rw [hrun]
    simp only [Oper.upon, hdst]
    have hE : Ext W (W.alloc (.cells x.z x.t)) := (Below.refl _ _).alloc (Nat.le_refl _) _
    have hlt : ∀ y ∈ xs, y.i ≠ x.i := fun y hy => by
      have : y.i ∈ List.range' (m + 1) xs.length := by rw [← hi]; exact List.mem_map.2 ⟨y, hy, rfl⟩
      have := (List.mem_range'_1.1 this).1
      omega
    refine news_list xs (m + 1) _ _ (fun y hy => hok y (by simp [hy])) hi fun β W' hW' hb hd => ?_
    have hb0 : ∀ y ∈ xs, β y.i ≠ W.heap.size := fun y hy => by
      have := (hb y hy).1
      simp only [World.size_alloc] at this
      omega
    have h1 := h (fun k => if k = x.i then W.heap.size else β k) W' (ext_trans hE hW') (fun y hy => by
        rcases List.mem_cons.1 hy with rfl | hy
        · rw [if_pos rfl]; exact ⟨Nat.le_refl _, blk_step (blk_new _ _ rfl) hW'⟩
        · rw [if_neg (hlt y hy)]; exact ⟨Nat.le_trans hE.size (hb y hy).1, (hb y hy).2⟩)
      (fun y hy z hz hne => by
        by_cases ey : y.i = x.i <;> by_cases ez : z.i = x.i
        · exact absurd (ey.trans ez.symm) hne
        · have hz' : z ∈ xs := (List.mem_cons.1 hz).resolve_left fun e => ez (by rw [e])
          rw [if_pos ey, if_neg ez]; exact fun e => hb0 z hz' e.symm
        · have hy' : y ∈ xs := (List.mem_cons.1 hy).resolve_left fun e => ey (by rw [e])
          rw [if_neg ey, if_pos ez]; exact hb0 y hy'
        · have hz' : z ∈ xs := (List.mem_cons.1 hz).resolve_left fun e => ez (by rw [e])
          have hy' : y ∈ xs := (List.mem_cons.1 hy).resolve_left fun e => ey (by rw [e])
          rw [if_neg ey, if_neg ez]; exact hd y hy' z hz' hne)
    have hcongr : ∀ (l : List NewOp) (a : Act), (∀ y ∈ l, y.i ≠ x.i) → putAll l (fun k => if k = x.i then W.heap.size else β k) a = putAll l β a := by
      intro l
      induction l with
      | nil => intro a _; rfl
      | cons y ys ih =>
        intro a hy
        rw [putAll, putAll, if_neg (hy y (by simp)), ih _ (fun z hz => hy z (by simp [hz]))]
    rw [putAll, if_pos rfl, hcongr xs _ hlt, List.length_cons, show m + (xs.length + 1) = m + 1 + xs.length by omega] at h1
    exact h1
/-- A region in the order of the text: the first m operations by one walk; new variables; the others. -/
theorem wp_region_pn {id : Nat} {a : Act} {w : World} {l : List Oper} (m : Nat) (xs : List NewOp) (hok : ∀ x ∈ xs, newOk P l.toArray x) (hi : (decide (m ≤ l.length) && decide (xs.map (·.i) = List.range' m xs.length)) = true)
    (h : wpX P l.toArray w (fun a' => ∀ (β : Nat → Nat) (W : World), Ext w W → (∀ x ∈ xs, w.heap.size ≤ β x.i ∧ Blk W (β x.i) x.z x.t) → (∀ x ∈ xs, ∀ y ∈ xs, x.i ≠ y.i → β x.i ≠ β y.i) →
      wpList P l.toArray Q (l.drop (m + xs.length)) (putAll xs β a') W) (l.take m) a) : (Code.region id l.toArray false).wp P Q a w := by
  simp only [Bool.and_eq_true, decide_eq_true_eq] at hi
  refine wp_region_lit ?_
  have mono : ∀ (l' : List Oper) (a : Act), wpX P l.toArray w (fun a' => ∀ (β : Nat → Nat) (W : World), Ext w W → (∀ x ∈ xs, w.heap.size ≤ β x.i ∧ Blk W (β x.i) x.z x.t) → (∀ x ∈ xs, ∀ y ∈ xs, x.i ≠ y.i → β x.i ≠ β y.i) →
      wpList P l.toArray Q (l.drop (m + xs.length)) (putAll xs β a') W) l' a → wpX P l.toArray w (fun a' => ∀ W, Ext w W → wpList P l.toArray Q (l.drop m) a' W) l' a := by
    intro l'
    induction l' with
    | nil =>
      intro a h W hW
      exact news_list xs m a W hok hi.2 fun β W' hW' h1 h2 => h β W' (ext_trans hW hW') (fun x hx => ⟨Nat.le_trans hW.size (h1 x hx).1, (h1 x hx).2⟩) h2
    | cons o l' ih => intro a ⟨v, hy, hk⟩; exact ⟨v, hy, ih _ hk⟩
  have := wpX_list (rest := l.drop m) (l.take m) a (mono _ _ h) w (ext_refl _)
  rwa [List.take_append_drop] at this
/-- Two rows are compared. -/
theorem run_eqlA {ρ : Operand → Value} {o : Oper} {t t2 : TypeId} {x y : Operand} {xs ys : Array Value} {b : Bool} {W : World} (hv : (Op.equalIn 10000 t (.agg xs) (.agg ys)).run P W = .ok b W) (hg : P.eqGuardType P.depth t = false)
    (ho : o.op = .binOp .eql t x y t2) (hx : ρ x = .agg xs) (hy : ρ y = .agg ys) : (execOp ρ o).run P W = .ok (.value (.bool b)) W := by
  simp [execOp, ho, hx, hy, eqGuard, hg, binOp, Op.equal, Op.maxDepth, hv, go_sem]
theorem wpX_eqlA {w : World} {E : Act → Prop} {l : List Oper} {o : Oper} {a : Act} {t t2 : TypeId} {x y : Operand} {xs ys : Array Value} {b : Bool} (hv : ∀ W, (Op.equalIn 10000 t (.agg xs) (.agg ys)).run P W = .ok b W) (hg : P.eqGuardType P.depth t = false)
    (hw : Region.wanted o (yielded ops a.tmps) = true) (ho : o.op = .binOp .eql t x y t2) (hx : a.eval x = .agg xs) (hy : a.eval y = .agg ys) (h : wpX P ops w E l (a.put o.dst (.bool b))) : wpX P ops w E (o :: l) a :=
  wpX_val hw (fun W _ => run_eqlA (hv W) hg ho hx hy) h
/-! ### What comes last in a region -/
section
variable {w : World} {l : List Oper} {o : Oper} {a : Act}
theorem wpL_nil (h : Q .normal a w) : wpList P ops Q [] a w := h
theorem wpL_skip (hw : Region.wanted o (yielded ops a.tmps) = false) (h : wpList P ops Q l (a.put o.dst undef) w) : wpList P ops Q (o :: l) a w := by
  unfold wpList; rw [if_neg (by rw [hw]; exact Bool.false_ne_true)]; exact h
theorem wpL_assign {x : Operand} {v : Value} (hw : Region.wanted o (yielded ops a.tmps) = true) (ho : o.op = .assign x) (hx : a.eval x = v) (h : wpList P ops Q l (a.put o.dst v) w) : wpList P ops Q (o :: l) a w := by
  unfold wpList; rw [if_pos hw]
  refine .inl ?_
  unfold Oper.wp
  have : (execOp a.eval o).run P w = .ok (.value v) w := by simp [execOp, ho, hx]
  rw [this]; exact h
theorem wpL_val {v : Value} (hw : Region.wanted o (yielded ops a.tmps) = true) (hv : (execOp a.eval o).run P w = .ok (.value v) w) (h : wpList P ops Q l (a.put o.dst v) w) : wpList P ops Q (o :: l) a w := by
  unfold wpList; rw [if_pos hw]
  refine .inl ?_
  unfold Oper.wp
  rw [hv]; exact h
/-- A whole row is stored. -/
theorem wpL_store {ty : TypeId} {x y : Operand} {g : Nat} {cells old : Array Value} {t : TypeId} (hw : Region.wanted o (yielded ops a.tmps) = true) (ho : o.op = .store ty x y)
    (hx : a.eval x = .pointer (some ⟨g, 0, none⟩)) (hy : a.eval y = .agg cells) (hB : Blk w g old t) (hi : (P.info? ty).map (·.size) = some cells.size) (hs : old.size = cells.size)
    (h1 : cells.all (·.oneCell') = true) (h : wpList P ops Q l (a.put o.dst undef) (w.setRow g cells)) : wpList P ops Q (o :: l) a w := by
  unfold wpList; rw [if_pos hw]
  exact .inl (wp_store_row ty x y ho g cells hx hy t old hB hi hs h1 h)
end
/-- The results: a row in a variable. -/
theorem res_row {fn : Func} {p : Tmp} {ty t : TypeId} {tmps : Array Value} {w : World} {g : Nat} {cs : Array Value} (h : fn.results = #[.cell p ty])
    (hp : tmps.getD p undef = .pointer (some ⟨g, 0, none⟩)) (hB : Blk w g cs t) (hk : (P.underlying ty).map TypeDesc.isRow = some true) (hi : (P.info? ty).map (·.size) = some cs.size) :
    (results fn tmps).run P w = .ok (.agg cs) w := by
  cases hu : P.underlying ty with
  | none => simp [hu] at hk
  | some d =>
    have hd : d.isRow = true := by simpa [hu] using hk
    exact results_cell_row h tmps w g t cs _ d hp hB hu (by cases d <;> simp_all [TypeDesc.isRow]) hi
/-- The results: a row in a variable, and a value beside it. -/
theorem res_row2 {fn : Func} {p q : Tmp} {ty t : TypeId} {tmps : Array Value} {w : World} {g : Nat} {cs : Array Value} {v : Value} (h : fn.results = #[.cell p ty, .tmp q])
    (hp : tmps.getD p undef = .pointer (some ⟨g, 0, none⟩)) (hq : tmps.getD q undef = v) (hB : Blk w g cs t) (hk : (P.underlying ty).map TypeDesc.isRow = some true) (hi : (P.info? ty).map (·.size) = some cs.size) :
    (results fn tmps).run P w = .ok (.tuple #[.agg cs, v]) w := by
  cases hu : P.underlying ty with
  | none => simp [hu] at hk
  | some d =>
    have hd : d.isRow = true := by simpa [hu] using hk
    have hp' : tmps[p]?.getD undef = .pointer (some ⟨g, 0, none⟩) := by simpa using hp
    have hq' : tmps[q]?.getD undef = v := by simpa using hq
    simp [results, h, hp', hq', asAddr, run_loadVar_row w g t ty cs _ d hB hu (by cases d <;> simp_all [TypeDesc.isRow]) hi]
end
end Go.Proofs.Yteniajdmmffamaa
