/- A drawn region whose first operations yield one value (some of them, that look at no world, may come late); the others are forced. No conditions. -/
import Derived.Test.YtlbgelbhhibikaaJ6
set_option linter.unusedSimpArgs false
set_option linter.unusedVariables false
namespace Go.Proofs.Ytlbgelbhhibikaa
open Go.RowKit
attribute [local irreducible] wpList wpTr wpX
section
variable {P : Program} {ops : Array Oper} {md : Region.Mode}
/-- as wpX; where a bit is set, the operation looks at no world -/
def wpXb (P : Program) (ops : Array Oper) (w : World) (E : Act → Prop) : List Bool → List Oper → Act → Prop
  | _, [], a => E a
  | [], _ :: _, _ => False
  | b :: bs, o :: l, a => ∃ v, (if b = true then Yields P ops o v a else Yw P ops o v a w) ∧ wpXb P ops w E bs l (a.put o.dst v)
def lexXb (md : Region.Mode) (ops : Array Oper) (m : Nat) : List Bool → Nat → Array Bool → Bool
  | [], _, _ => true
  | b :: bs, k, L => (Region.ready md ops L).contains k && Region.free md ops L k && decide (k < m) && (b || tailWaits md ops m k) && lexXb md ops m bs (k + 1) (L.setIfInBounds k true)
theorem wpXb_RE {Q : Exit → Act → World → Prop} {m g f : Nat} {w : World} (hs : Region.noSelect ops = true) (hQ : ∀ c a d v w, Q (.panic c) (a.put d v) w → Q (.panic c) a w) :
    ∀ (l : List Oper) (bs : List Bool) (k : Nat) (L : Array Bool) (a : Act), bs.length = l.length → ClosedL md ops L → (∀ j, j < l.length → l[j]? = ops[k + j]?) → lexXb md ops m bs k L = true →
    wpXb P ops w (fun a' => RE P md ops Q m g f (markFrom l.length k L) a' w) bs l a → RE P md ops Q m g (l.length + f) L a w
  | [], [], _, _, _, _, _, _, _, h => by simpa [markFrom, wpXb] using h
  | [], _ :: _, _, _, _, hb, _, _, _, _ => by cases hb
  | _ :: _, [], _, _, _, hb, _, _, _, _ => by cases hb
  | o :: l, b :: bs, k, L, a, hbl, hcl, hl, hB, h => by
    have h0 : ops[k]? = some o := by simpa using (hl 0 (by simp)).symm
    simp only [lexXb, Bool.and_eq_true] at hB
    obtain ⟨⟨⟨⟨hr, hf⟩, hk⟩, ht⟩, hB'⟩ := hB
    obtain ⟨v, hy, hK⟩ := h
    rw [List.length_cons, show l.length + 1 + f = (l.length + f) + 1 by omega]
    have hrest := (wpXb_RE hs hQ l bs (k + 1) _ _ (by simpa using hbl) (hcl.set (by simpa using hr)) (fun j hj => by have := hl (j + 1) (by simpa using hj); simpa [Nat.add_assoc, Nat.add_comm 1 j] using this) hB' hK)
    by_cases hb : b = true
    · rw [if_pos hb] at hy
      exact RE_firstP h0 (Region.noSelect_spec hs) (fun c a w h => hQ c a _ _ w h) (by simpa using hk) (l.length + f) L a w (Region.free_spec h0 hf) (by simpa using hr) hy hrest
    · rw [if_neg hb] at hy
      have ht' : tailWaits md ops m k = true := by simpa [hb] using ht
      exact RE_first h0 (Region.noSelect_spec hs) (fun c a w h => hQ c a _ _ w h) (by simpa using hk) ht' (l.length + f) L a w hcl (Region.free_spec h0 hf) (by simpa using hr) hy hrest
theorem wpXb_mono {w : World} {E E' : Act → Prop} (hE : ∀ a, E a → E' a) : ∀ (l : List Oper) (bs : List Bool) (a : Act), wpXb P ops w E bs l a → wpXb P ops w E' bs l a
  | [], _, a, h => by
    cases ‹List Bool› <;> exact hE a h
  | _ :: _, [], _, h => h
  | o :: l, b :: bs, a, ⟨v, hy, hk⟩ => ⟨v, hy, wpXb_mono hE l bs _ hk⟩
theorem wp_region_xb {id : Nat} {a : Act} {w : World} {Q : Exit → Act → World → Prop} {l : List Oper} (bs : List Bool) (hm : P.follows .mixedOrders = true)
    (hB : (Region.noSelect l.toArray && lexXb .any l.toArray bs.length bs 0 (Array.replicate l.length false) && decide (bs.length ≤ l.length) &&
      (Region.ready .any l.toArray (markFrom bs.length 0 (Array.replicate l.length false))).all (fun j => decide (bs.length ≤ j)) &&
      Region.seqB .any l.toArray (l.length - bs.length) bs.length (markFrom bs.length 0 (Array.replicate l.length false))) = true)
    (h : wpXb P l.toArray w (fun a' => ∀ W, Ext w W → wpList P l.toArray (NoPanic Q) (l.drop bs.length) a' W) bs (l.take bs.length) a) : (Code.region id l.toArray true).wp P Q a w := by
  simp only [Bool.and_eq_true, decide_eq_true_eq] at hB
  obtain ⟨⟨⟨⟨hs, hx⟩, hle⟩, hr⟩, hq⟩ := hB
  obtain ⟨m, hmb⟩ : ∃ m, bs.length = m := ⟨_, rfl⟩
  rw [hmb] at hx hle hr hq h
  have hlen : (l.take m).length = m := by simp; omega
  refine wp_region_noPanic ?_
  have h' : wpXb P l.toArray w (fun a' => RE P .any l.toArray (NoPanic Q) m (l.length - m) 0 (markFrom m 0 (Array.replicate l.length false)) a' w) bs (l.take m) a := by
    refine wpXb_mono (fun a' h W hW => ⟨fun j hj => by simpa using List.all_eq_true.1 hr j hj, ?_⟩) _ _ _ h
    have := wpAny_of_seq (P := P) (md := .any) (ops := l.toArray) (Q' := NoPanic Q) (l.drop m) m _ a' W (fun j => by simp [List.getElem?_drop]) (by rw [List.length_drop]; exact hq) (h W hW)
    rwa [List.length_drop] at this
  have h1 := wpXb_RE (m := m) (g := l.length - m) (f := 0) (w := w) (md := .any) hs noPanic_put (l.take m) bs 0 (Array.replicate l.length false) a (by rw [hmb, hlen])
    (fun j oj _ hl => by rw [getD_replicate_false] at hl; cases hl) (fun j hj => by rw [hlen] at hj; simp [List.getElem?_take, hj]) hx (by rw [hlen]; exact h')
  rw [hlen] at h1
  have h2 := RA.sound _ _ _ _ (h1 { w with drawn := w.drawn + 1 } ((Below.refl _ _).drew))
  refine wp_region_any hm ?_
  have e : m + 0 + (l.length - m) = l.toArray.size := by simp; omega
  rw [e] at h2
  simpa using h2
end
/-- a walk of such operations -/
def wpY (P : Program) (ops : Array Oper) (E : Act → World → Prop) (F : List Nat) (w : World) (H : List As) (bs : List Bool) (l : List Oper) (a : Act) : Prop :=
  ∀ W, SH F w W H → wpXb P ops W (fun a' => ∀ W', Ext W W' → E a' W') bs l a
section
variable {P : Program} {ops : Array Oper} {Q : Exit → Act → World → Prop} {E : Act → World → Prop} {F : List Nat} {w : World} {H : List As} {l : List Oper} {o : Oper} {a a' : Act} {b : Bool} {bs : List Bool}
theorem YV {v : Value} (h : wpY P ops E F w H bs l a') (hw : Region.wanted o (yielded ops a.tmps) = true := by exact rfl) (hv : ∀ W, (execOp a.eval o).run P W = .ok (.value v) W := by intro W; (go_simp; first | done | with_reducible rfl)) (hp : a.put o.dst v = a' := by first | exact pl (by dsimp only [mB, mC]; first | done | exact rfl) | exact pn | exact rfl) : wpY P ops E F w H (b :: bs) (o :: l) a := by
  subst hp
  intro W hS
  refine ⟨v, ?_, h W hS⟩
  cases b with
  | true => exact .inl ⟨hw, hv⟩
  | false => exact .inl ⟨hw, fun W' _ => by rw [hv W']; exact ⟨rfl, rfl⟩⟩
theorem YW {v : Value} (h : wpY P ops E F w H bs l a') (hw : Region.wanted o (yielded ops a.tmps) = true := by exact rfl) (hv : ∀ W, (execOp a.eval o).run P W = .ok (.value v) W := by intro W; first | rfl | (go_simp; done) | (go_simp; with_reducible rfl) | (go_simp; omega)) (hp : a.put o.dst v = a' := by first | exact pl (by dsimp only [mB, mC]; first | done | exact rfl) | exact pn | exact rfl) : wpY P ops E F w H (b :: bs) (o :: l) a := YV h hw hv hp
theorem YF {v : Value} (hv : ∀ W, SH F w W H → (execOp a.eval o).run P W = .ok (.value v) W) (h : wpY P ops E F w H bs l a') (hw : Region.wanted o (yielded ops a.tmps) = true := by exact rfl) (hp : a.put o.dst v = a' := by first | exact pl (by dsimp only [mB, mC]; first | done | exact rfl) | exact pn | exact rfl) : wpY P ops E F w H (false :: bs) (o :: l) a := by
  subst hp
  intro W hS
  exact ⟨v, .inl ⟨hw, fun W' hW => by rw [hv W' (hS.grow hW)]; exact ⟨rfl, rfl⟩⟩, h W hS⟩
/-- a load of a cell of thing i -/
theorem YG (i : Nat) {b j : Nat} {cs : Array Value} {t ty : TypeId} {v : Value} {x : Operand} (h : wpY P ops E F w H bs l a') (hi : H[i]? = some (.b b cs t) := by exact rfl) (hw : Region.wanted o (yielded ops a.tmps) = true := by exact rfl) (ho : o.op = .load ty x := by exact rfl) (hx : a.eval x = .pointer (some ⟨b, j, none⟩) := by exact rfl) (hj : cs[j]? = some v := by exact rfl)
    (hk : (P.underlying ty).map TypeDesc.isRow = some false := by as_aux_lemma => kernel_rfl) (hp : a.put o.dst v = a' := by first | exact pl (by dsimp only [mB, mC]; first | done | exact rfl) | exact pn | exact rfl) : wpY P ops E F w H (false :: bs) (o :: l) a :=
  YF (fun W hS => run_at ho hx (by rw [blk_cell (hS.blk hi)]; exact hj) hk) h hw hp
theorem YZt {l2 : List Oper} (h : wpM P ops (.L Q) F w H l2 a) : wpY P ops (fun a1 W => wpList P ops Q l2 a1 W) F w H [] [] a := fun _ hS W' hW => h W' (hS.grow hW)
theorem RY {id : Nat} {W : World} {l1 l2 : List Oper} (bs : List Bool) (hS : SH F w W H) (h : wpY P l.toArray (fun a1 W => wpList P l.toArray (NoPanic Q) l2 a1 W) F w H bs l1 a') (hm : P.follows .mixedOrders = true := by as_aux_lemma => kernel_rfl)
    (hB : (Region.noSelect l.toArray && lexXb .any l.toArray bs.length bs 0 (Array.replicate l.length false) && decide (bs.length ≤ l.length) &&
      (Region.ready .any l.toArray (markFrom bs.length 0 (Array.replicate l.length false))).all (fun j => decide (bs.length ≤ j)) &&
      Region.seqB .any l.toArray (l.length - bs.length) bs.length (markFrom bs.length 0 (Array.replicate l.length false))) = true := by as_aux_lemma => kernel_rfl) (h1 : l.take bs.length = l1 := by (try simp only [List.length, List.append, List.take_succ_cons, List.take_zero, List.take_nil]); exact rfl) (h2 : l.drop bs.length = l2 := by (try simp only [List.length, List.append, List.drop_succ_cons, List.drop_zero, List.drop_nil]); exact rfl)
    (hp : a = a' := by (try simp only [Act.put, mA, mB, mC]); exact rfl) : (Code.region id l.toArray true).wp P Q a W := by
  subst hp h1 h2; exact wp_region_xb bs hm hB (h W hS)
end
end Go.Proofs.Ytlbgelbhhibikaa
