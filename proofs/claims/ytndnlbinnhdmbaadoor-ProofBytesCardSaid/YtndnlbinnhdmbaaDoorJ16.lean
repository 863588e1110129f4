/- Trees: the key of a leaf, a tree of two leaves, a leaf more. Conditions: the tables hold their numbers. Trees: a tree of two leaves, a leaf more. Conditions: the tables hold their numbers; the keys and values have 256 bits. Trees: a leaf more, leaf by leaf. Conditions: the tables hold their numbers; the keys and values have 256 bits; the depth and the count are below 2^60. Trees of leaves; whether a tree of one leaf has its sum; TreeSums. Conditions: the tables hold their numbers; the keys and values have 256 bits. Trees, the plain law: the tree of leaves is that of the leaves in order, however they are put. No conditions. Trees, the plain law: the tree of a list in order; a leaf put into it; its leaves. No conditions. Lists of leaves: the document's Put, Side, Same; the laws' to, from, few, list. Conditions: keys and values have 256 bits. Lists of leaves: the laws' to and from; the document's Put, Side, Same; few, list. Conditions: keys and values have 256 bits. Lists of leaves: the document's Same; the law's few and list. Conditions: keys and values have 256 bits. The document's sum of leaves; a tree's leaves. Conditions: the tables hold their numbers; keys and values have 256 bits. A tree's leaves, in order. Conditions: fewer than 2^38 leaves. TreeRoots. Conditions: keys and values have 256 bits; the tables hold their numbers. Lists of leaves, the plain law: the order in which leaves of unlike keys are put is no matter; a leaf that is there is found. No conditions. -/
import Derived.Test.YtndnlbinnhdmbaaDoorJ15
import Derived.Test.YtndnlbinnhdmbaaDoorJ7
set_option linter.unusedSimpArgs false
set_option linter.unusedVariables false
namespace Go.Proofs.YtndnlbinnhdmbaaDoor
set_option maxHeartbeats 1500000
set_option maxRecDepth 100000
open Go.RowKit
attribute [local irreducible] wpList wpTr wpX
set_option linter.unusedSimpArgs false
def tsz : TR → Nat
 | .nil => 0
 | .leaf _ _ => 1
 | .node _ l r => 1 + tsz l + tsz r
/-- how many nodes lie below a place, to a depth -/
def hd (w : World) : Nat → Value → Nat
 | n + 1, .pointer (some a) => match w.cell? ⟨a.block, 66, none⟩ with
  | some (.bool true) => 1 + hd w n ((w.cell? ⟨a.block, 64, none⟩).getD undef) + hd w n ((w.cell? ⟨a.block, 65, none⟩).getD undef)
  | some (.bool false) => 1
  | _ => 0
 | _, _ => 0
theorem hd_nlp (w : World) (n : Nat) : hd w n nlp = 0 := by cases n <;> rfl
theorem hd_eq {w : World} : ∀ {T : TR} {u : Value} {n : Nat}, TA w T u → tsz T ≤ n → hd w n u = tsz T
 | .nil, _, n, h, _ => by rw [show _ = nlp from h]; exact hd_nlp w n
 | .leaf k v, _, 0, _, hn => absurd hn (by show ¬ 1 ≤ 0; omega)
 | .leaf k v, _, n + 1, ⟨b, h1, h2, _⟩, _ => by
  subst h1
  have e : w.cell? ⟨b, 66, none⟩ = some (.bool false) := by rw [blk_cell h2]; exact nd_sp
  show (match w.cell? ⟨b, 66, none⟩ with
   | some (.bool true) => _
   | some (.bool false) => 1
   | _ => 0) = 1
  rw [e]
 | .node d l r, _, 0, _, hn => absurd hn (by show ¬ 1 + tsz l + tsz r ≤ 0; omega)
 | .node d l r, _, n + 1, ⟨b, s0, s1, h1, h2, h3, h4⟩, hn => by
  subst h1
  have e : w.cell? ⟨b, 66, none⟩ = some (.bool true) := by rw [blk_cell h2]; exact nd_sp
  have e0 : w.cell? ⟨b, 64, none⟩ = some s0 := by rw [blk_cell h2]; exact nd_s0
  have e1 : w.cell? ⟨b, 65, none⟩ = some s1 := by rw [blk_cell h2]; exact nd_s1
  have hn' : 1 + tsz l + tsz r ≤ n + 1 := hn
  show (match w.cell? ⟨b, 66, none⟩ with
   | some (.bool true) => 1 + hd w n ((w.cell? ⟨b, 64, none⟩).getD undef) + hd w n ((w.cell? ⟨b, 65, none⟩).getD undef)
   | some (.bool false) => 1
   | _ => 0) = 1 + tsz l + tsz r
  rw [e, e0, e1]
  show 1 + hd w n s0 + hd w n s1 = _
  rw [hd_eq h3 (by omega), hd_eq h4 (by omega)]
def full : TR → Prop
 | .nil => False
 | .leaf _ _ => True
 | .node _ .nil r => full r
 | .node _ l _ => full l
theorem TA.cases {w : World} {T : TR} {u : Value} (h : TA w T u) (hf : full T) : (∃ b k v, T = .leaf k v ∧ u = ptr b ∧ Blk w b (ndc k v nlp nlp false (sL k v) 1) 105) ∨
  ∃ b d l r s0 s1, T = .node d l r ∧ u = ptr b ∧ Blk w b (ndc 0 0 s0 s1 true (rs (.node d l r)) (cnt l + cnt r)) 105 ∧ TA w l s0 ∧ TA w r s1 := by
 cases T with
 | nil => exact hf.elim
 | leaf k v => obtain ⟨b, h1, h2, _⟩ := h; exact .inl ⟨b, k, v, rfl, h1, h2⟩
 | node d l r => obtain ⟨b, s0, s1, h1, h2, h3, h4⟩ := h; exact .inr ⟨b, d, l, r, s0, s1, rfl, h1, h2, h3, h4⟩
attribute [local irreducible] hs4 sE sL sN

end Go.Proofs.YtndnlbinnhdmbaaDoor

set_option linter.unusedSimpArgs false
set_option linter.unusedVariables false
namespace Go.Proofs.YtndnlbinnhdmbaaDoor
set_option maxHeartbeats 3000000
set_option maxRecDepth 100000
open Go.RowKit
attribute [local irreducible] wpList wpTr wpX
set_option linter.unusedSimpArgs false
attribute [local irreducible] hs4 sE sL sN

end Go.Proofs.YtndnlbinnhdmbaaDoor

set_option linter.unusedSimpArgs false
set_option linter.unusedVariables false
namespace Go.Proofs.YtndnlbinnhdmbaaDoor
set_option maxHeartbeats 3000000
set_option maxRecDepth 100000
open Go.RowKit
attribute [local irreducible] wpList wpTr wpX
set_option linter.unusedSimpArgs false
theorem eqKey (A B : Nat) (hA : A < 2 ^ 256) (hB : B < 2 ^ 256) (w : World) : (Op.equalIn 10000 28 (.agg (arrK .u8 32 (byt A))) (.agg (arrK .u8 32 (byt B)))).run Tryd.prog w = .ok (decide (A = B)) w := by
 have h := run_equalIn_arr (P := Tryd.prog) w 9998 28 5 32 .u8 (arrK .u8 32 (byt A)) (arrK .u8 32 (byt B)) (byt A) (byt B) Tryd.underlying28 Tryd.underlying5 (by kernel_rfl)
  (fun i hi => arrK_get _ _ _ _ hi) (fun i hi => arrK_get _ _ _ _ hi)
 rw [h]
 congr 1
 rw [Bool.eq_iff_iff, eqArr_true, decide_eq_true_iff]
 exact ⟨byt_inj hA hB, fun h => by subst h; intro _ _; rfl⟩
attribute [local irreducible] hs4 sE sL sN

end Go.Proofs.YtndnlbinnhdmbaaDoor

set_option linter.unusedSimpArgs false
set_option linter.unusedVariables false
namespace Go.Proofs.YtndnlbinnhdmbaaDoor
set_option maxHeartbeats 3000000
set_option maxRecDepth 100000
open Go.RowKit
attribute [local irreducible] wpList wpTr wpX
set_option linter.unusedSimpArgs false
abbrev lfl (x : Nat × Nat) : List Value := (lf x.1 x.2).toList
theorem eqS32 {A B : Nat} (h : A = B) (w : World) : (Op.equalIn 10000 22 (.agg (arrK .u8 32 (byt A))) (.agg (arrK .u8 32 (byt B)))).run Tryd.prog w = .ok true w := by
 subst h
 rw [run_equalIn_arr (P := Tryd.prog) w 9998 22 5 32 .u8 (arrK .u8 32 (byt A)) (arrK .u8 32 (byt A)) (byt A) (byt A) Tryd.underlying22 Tryd.underlying5 (by kernel_rfl) (fun i hi => arrK_get _ _ _ _ hi) (fun i hi => arrK_get _ _ _ _ hi)]
 rw [(eqArr_true _ _ _).2 fun _ _ => rfl]
attribute [local irreducible] hs4 sE sL sN

end Go.Proofs.YtndnlbinnhdmbaaDoor

set_option linter.unusedSimpArgs false
set_option linter.unusedVariables false
namespace Go.Proofs.YtndnlbinnhdmbaaDoor
/-! ### Lists of leaves, by the document -/
abbrev Lf := Nat × Nat
end Go.Proofs.YtndnlbinnhdmbaaDoor

set_option linter.unusedSimpArgs false
set_option linter.unusedVariables false
namespace Go.Proofs.YtndnlbinnhdmbaaDoor
/-! ### The leaves of a tree -/
/-! ### Lists, step by step -/
end Go.Proofs.YtndnlbinnhdmbaaDoor

set_option linter.unusedSimpArgs false
set_option linter.unusedVariables false
namespace Go.Proofs.YtndnlbinnhdmbaaDoor
set_option maxRecDepth 100000
open Go.RowKit
attribute [local irreducible] wpList wpTr wpX
set_option linter.unusedSimpArgs false
theorem RR.op {w : World} {u : Value} {ls : List Lf} (h : RR 64 w u (ls.map lfl)) : ∃ A c, u = .slice A ls.length c ∧ ls.length ≤ c ∧ Hid (∀ (j : Nat) (x : Lf), ls[j]? = some x → ∃ g o, A = some ⟨g, o, none⟩ ∧ ∀ (i : Nat) (v : Value), (lfl x)[i]? = some v → w.cell? ⟨g, o + j * 64 + i, none⟩ = some v) := by
 obtain ⟨A, c, h1, h2, _, h3⟩ := h
 rw [List.length_map] at h1 h2
 exact ⟨A, c, h1, h2, Lib.hid fun j x hj => h3 j (lfl x) (by rw [List.getElem?_map, hj]; rfl)⟩
theorem fields_step {P : Program} {d : Nat} {xs ys : Array Value} {w : World} {f : Field} {fs : List Field} {a b : Value} {r : Bool} (hn : f.name ≠ "_") (h1 : (part f.type xs f.offset).run P w = .ok a w) (h2 : (part f.type ys f.offset).run P w = .ok b w) (h3 : (Op.equalIn d f.type a b).run P w = .ok r w) :
  (Op.eqFields d xs ys (f :: fs)).run P w = if r = true then (Op.eqFields d xs ys fs).run P w else .ok false w := by
 rw [Op.eqFields, if_pos hn]
 cases r with
 | true => rw [if_pos rfl]; simp only [Sem.run_bind, h1, h2, h3, Result.andThen_ok, Bool.not_true, Bool.false_eq_true, if_false]
 | false => rw [if_neg (by decide)]; simp only [Sem.run_bind, h1, h2, h3, Result.andThen_ok, Bool.not_false, if_true, Sem.run_pure]
theorem part_arr {P : Program} (w : World) (t n e : Nat) (xs : Array Value) (off : Nat) (ht : P.underlying t = some (.array n e)) (hs : (P.info? t).map (·.size) = some n) (ho : off + n ≤ xs.size) : (part t xs off).run P w = .ok (.agg (xs.extract off (off + n))) w := by
 have h1 : (isAgg t).run P w = .ok true w := by
  unfold isAgg; rw [Sem.run_bind, run_underlying ht w]; rfl
 cases hq : P.info? t with
 | none => simp [hq] at hs
 | some i =>
  have hsz : i.size = n := by simpa [hq] using hs
  simp [part, Sem.run_bind, h1, sizeOf, typeInfo, hq, hsz, ho]
theorem eqB (d : Nat) (A B : Nat) (hA : A < 2 ^ 256) (hB : B < 2 ^ 256) (xs ys : Array Value) (hx : ∀ i, i < 32 → xs[i]? = some (.int .u8 (byt A i))) (hy : ∀ i, i < 32 → ys[i]? = some (.int .u8 (byt B i))) (w : World) : (Op.equalIn (d + 2) 22 (.agg xs) (.agg ys)).run Tryd.prog w = .ok (decide (A = B)) w := by
 rw [run_equalIn_arr (P := Tryd.prog) w d 22 5 32 .u8 xs ys (byt A) (byt B) Tryd.underlying22 Tryd.underlying5 (by kernel_rfl) hx hy]
 congr 1
 rw [Bool.eq_iff_iff, eqArr_true, decide_eq_true_iff]
 exact ⟨byt_inj hA hB, fun h => by subst h; intro _ _; rfl⟩
theorem eqV32 (A B : Nat) (hA : A < 2 ^ 256) (hB : B < 2 ^ 256) (w : World) : (Op.equalIn 10000 22 (.agg (arrK .u8 32 (byt A))) (.agg (arrK .u8 32 (byt B)))).run Tryd.prog w = .ok (decide (A = B)) w :=
 eqB 9998 A B hA hB _ _ (fun i hi => arrK_get _ _ _ _ hi) (fun i hi => arrK_get _ _ _ _ hi) w
theorem ext_k {k v : Nat} : ∀ i, i < 32 → ((lf k v).extract 0 (0 + 32))[i]? = some (.int .u8 (byt k i)) := fun i hi => by
 rw [Array.getElem?_extract]; simp only [lf_size]
 rw [if_pos (by omega)]; exact lf_k i _ (arrK_get _ _ _ _ hi)
theorem ext_v {k v : Nat} : ∀ i, i < 32 → ((lf k v).extract 32 (32 + 32))[i]? = some (.int .u8 (byt v i)) := fun i hi => by
 rw [Array.getElem?_extract]; simp only [lf_size]
 rw [if_pos (by omega)]; exact lf_v i _ (arrK_get _ _ _ _ hi)
theorem eqRL (x y : Lf) (hx : x.1 < 2 ^ 256 ∧ x.2 < 2 ^ 256) (hy : y.1 < 2 ^ 256 ∧ y.2 < 2 ^ 256) (w : World) : (Op.equalIn 10000 24 (.agg (lf x.1 x.2)) (.agg (lf y.1 y.2))).run Tryd.prog w = .ok (decide (x = y)) w := by
 have hu := Tryd.underlying24
 have hf : Tryd.prog.fieldsOf 24 = (match Tryd.prog.underlying 24 with | some (.struct fs) => fs | _ => #[]) := rfl
 rw [hu] at hf
 rw [run_equalIn_struct w 9999 24 _ _ (by rw [hf]; exact hu) (by kernel_rfl), hf]
 have p1 := fun k v => part_arr (P := Tryd.prog) w 22 32 5 (lf k v) 0 Tryd.underlying22 (by kernel_rfl) (by rw [lf_size]; decide)
 have p2 := fun k v => part_arr (P := Tryd.prog) w 22 32 5 (lf k v) 32 Tryd.underlying22 (by kernel_rfl) (by rw [lf_size]; decide)
 refine (fields_step (by decide) (p1 _ _) (p1 _ _) (eqB 9997 x.1 y.1 hx.1 hy.1 _ _ ext_k ext_k w)).trans ?_
 by_cases h : x.1 = y.1
 ·
  rw [if_pos (decide_eq_true h)]
  refine (fields_step (by decide) (p2 _ _) (p2 _ _) (eqB 9997 x.2 y.2 hx.2 hy.2 _ _ ext_v ext_v w)).trans ?_
  by_cases h2 : x.2 = y.2
  ·
   rw [if_pos (decide_eq_true h2), decide_eq_true (Prod.ext h h2)]; simp [Op.eqFields]
  ·
   rw [if_neg (by simp [h2]), decide_eq_false fun e => h2 (by rw [e])]
 ·
  rw [if_neg (by simp [h]), decide_eq_false fun e => h (by rw [e])]

end Go.Proofs.YtndnlbinnhdmbaaDoor

set_option linter.unusedSimpArgs false
set_option linter.unusedVariables false
namespace Go.Proofs.YtndnlbinnhdmbaaDoor
set_option maxHeartbeats 3000000
set_option maxRecDepth 100000
open Go.RowKit
attribute [local irreducible] wpList wpTr wpX
set_option linter.unusedSimpArgs false
end Go.Proofs.YtndnlbinnhdmbaaDoor

set_option linter.unusedSimpArgs false
set_option linter.unusedVariables false
namespace Go.Proofs.YtndnlbinnhdmbaaDoor
set_option maxHeartbeats 3000000
set_option maxRecDepth 100000
open Go.RowKit
attribute [local irreducible] wpList wpTr wpX
set_option linter.unusedSimpArgs false

end Go.Proofs.YtndnlbinnhdmbaaDoor

set_option linter.unusedSimpArgs false
set_option linter.unusedVariables false
namespace Go.Proofs.YtndnlbinnhdmbaaDoor
set_option maxHeartbeats 3000000
set_option maxRecDepth 100000
open Go.RowKit
attribute [local irreducible] wpList wpTr wpX
set_option linter.unusedSimpArgs false
attribute [local irreducible] hs4 sE sL sN

end Go.Proofs.YtndnlbinnhdmbaaDoor

set_option linter.unusedSimpArgs false
set_option linter.unusedVariables false
namespace Go.Proofs.YtndnlbinnhdmbaaDoor
set_option maxHeartbeats 3000000
set_option maxRecDepth 100000
open Go.RowKit
attribute [local irreducible] wpList wpTr wpX
set_option linter.unusedSimpArgs false
attribute [local irreducible] hs4 sE sL sN

end Go.Proofs.YtndnlbinnhdmbaaDoor

set_option linter.unusedSimpArgs false
set_option linter.unusedVariables false
namespace Go.Proofs.YtndnlbinnhdmbaaDoor
set_option maxHeartbeats 3000000
set_option maxRecDepth 100000
open Go.RowKit
attribute [local irreducible] wpList wpTr wpX
set_option linter.unusedSimpArgs false
attribute [local irreducible] hs4 sE sL sN

end Go.Proofs.YtndnlbinnhdmbaaDoor

set_option linter.unusedSimpArgs false
set_option linter.unusedVariables false
namespace Go.Proofs.YtndnlbinnhdmbaaDoor
end Go.Proofs.YtndnlbinnhdmbaaDoor
