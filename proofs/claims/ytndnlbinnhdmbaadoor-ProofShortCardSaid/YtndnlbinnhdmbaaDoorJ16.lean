/- Trees: the key of a leaf, a tree of two leaves, a leaf more. Conditions: the tables hold their numbers. Trees: a tree of two leaves, a leaf more. Conditions: the tables hold their numbers; the keys and values have 256 bits. Trees: a leaf more, leaf by leaf. Conditions: the tables hold their numbers; the keys and values have 256 bits; the depth and the count are below 2^60. Trees of leaves; whether a tree of one leaf has its sum; TreeSums. Conditions: the tables hold their numbers; the keys and values have 256 bits. Trees, the plain law: the tree of leaves is that of the leaves in order, however they are put. No conditions. Trees, the plain law: the tree of a list in order; a leaf put into it; its leaves. No conditions. Lists of leaves: the document's Put, Side, Same; the laws' to, from, few, list. Conditions: keys and values have 256 bits. Lists of leaves: the laws' to and from; the document's Put, Side, Same; few, list. Conditions: keys and values have 256 bits. Lists of leaves: the document's Same; the law's few and list. Conditions: keys and values have 256 bits. The document's sum of leaves; a tree's leaves. Conditions: the tables hold their numbers; keys and values have 256 bits. A tree's leaves, in order. Conditions: fewer than 2^38 leaves. TreeRoots. Conditions: keys and values have 256 bits; the tables hold their numbers. Lists of leaves, the plain law: the order in which leaves of unlike keys are put is no matter; a leaf that is there is found. No conditions. -/
import Derived.Test.YtndnlbinnhdmbaaDoorJ15
import Derived.Test.YtndnlbinnhdmbaaDoorJ7
set_option linter.unusedSimpArgs false
set_option linter.unusedVariables false
namespace Go.Proofs.YtndnlbinnhdmbaaDoor
set_option maxHeartbeats 1500000
set_option maxRecDepth 100000
open Go.RowKit
attribute [local irreducible] wpList wpTr wpX
set_option linter.unusedSimpArgs false
def tsz : TR → Nat
 | .nil => 0
 | .leaf _ _ => 1
 | .node _ l r => 1 + tsz l + tsz r
/-- how many nodes lie below a place, to a depth -/
def hd (w : World) : Nat → Value → Nat
 | n + 1, .pointer (some a) => match w.cell? ⟨a.block, 66, none⟩ with
  | some (.bool true) => 1 + hd w n ((w.cell? ⟨a.block, 64, none⟩).getD undef) + hd w n ((w.cell? ⟨a.block, 65, none⟩).getD undef)
  | some (.bool false) => 1
  | _ => 0
 | _, _ => 0
theorem hd_nlp (w : World) (n : Nat) : hd w n nlp = 0 := by cases n <;> rfl
theorem hd_eq {w : World} : ∀ {T : TR} {u : Value} {n : Nat}, TA w T u → tsz T ≤ n → hd w n u = tsz T
 | .nil, _, n, h, _ => by rw [show _ = nlp from h]; exact hd_nlp w n
 | .leaf k v, _, 0, _, hn => absurd hn (by show ¬ 1 ≤ 0; omega)
 | .leaf k v, _, n + 1, ⟨b, h1, h2, _⟩, _ => by
  subst h1
  have e : w.cell? ⟨b, 66, none⟩ = some (.bool false) := by rw [blk_cell h2]; exact nd_sp
  show (match w.cell? ⟨b, 66, none⟩ with
   | some (.bool true) => _
   | some (.bool false) => 1
   | _ => 0) = 1
  rw [e]
 | .node d l r, _, 0, _, hn => absurd hn (by show ¬ 1 + tsz l + tsz r ≤ 0; omega)
 | .node d l r, _, n + 1, ⟨b, s0, s1, h1, h2, h3, h4⟩, hn => by
  subst h1
  have e : w.cell? ⟨b, 66, none⟩ = some (.bool true) := by rw [blk_cell h2]; exact nd_sp
  have e0 : w.cell? ⟨b, 64, none⟩ = some s0 := by rw [blk_cell h2]; exact nd_s0
  have e1 : w.cell? ⟨b, 65, none⟩ = some s1 := by rw [blk_cell h2]; exact nd_s1
  have hn' : 1 + tsz l + tsz r ≤ n + 1 := hn
  show (match w.cell? ⟨b, 66, none⟩ with
   | some (.bool true) => 1 + hd w n ((w.cell? ⟨b, 64, none⟩).getD undef) + hd w n ((w.cell? ⟨b, 65, none⟩).getD undef)
   | some (.bool false) => 1
   | _ => 0) = 1 + tsz l + tsz r
  rw [e, e0, e1]
  show 1 + hd w n s0 + hd w n s1 = _
  rw [hd_eq h3 (by omega), hd_eq h4 (by omega)]
def full : TR → Prop
 | .nil => False
 | .leaf _ _ => True
 | .node _ .nil r => full r
 | .node _ l _ => full l
theorem TA.cases {w : World} {T : TR} {u : Value} (h : TA w T u) (hf : full T) : (∃ b k v, T = .leaf k v ∧ u = ptr b ∧ Blk w b (ndc k v nlp nlp false (sL k v) 1) 105) ∨
  ∃ b d l r s0 s1, T = .node d l r ∧ u = ptr b ∧ Blk w b (ndc 0 0 s0 s1 true (rs (.node d l r)) (cnt l + cnt r)) 105 ∧ TA w l s0 ∧ TA w r s1 := by
 cases T with
 | nil => exact hf.elim
 | leaf k v => obtain ⟨b, h1, h2, _⟩ := h; exact .inl ⟨b, k, v, rfl, h1, h2⟩
 | node d l r => obtain ⟨b, s0, s1, h1, h2, h3, h4⟩ := h; exact .inr ⟨b, d, l, r, s0, s1, rfl, h1, h2, h3, h4⟩
attribute [local irreducible] hs4 sE sL sN

end Go.Proofs.YtndnlbinnhdmbaaDoor

set_option linter.unusedSimpArgs false
set_option linter.unusedVariables false
namespace Go.Proofs.YtndnlbinnhdmbaaDoor
set_option maxHeartbeats 3000000
set_option maxRecDepth 100000
open Go.RowKit
attribute [local irreducible] wpList wpTr wpX
set_option linter.unusedSimpArgs false
attribute [local irreducible] hs4 sE sL sN

end Go.Proofs.YtndnlbinnhdmbaaDoor

set_option linter.unusedSimpArgs false
set_option linter.unusedVariables false
namespace Go.Proofs.YtndnlbinnhdmbaaDoor
set_option maxHeartbeats 3000000
set_option maxRecDepth 100000
open Go.RowKit
attribute [local irreducible] wpList wpTr wpX
set_option linter.unusedSimpArgs false
theorem eqKey (A B : Nat) (hA : A < 2 ^ 256) (hB : B < 2 ^ 256) (w : World) : (Op.equalIn 10000 28 (.agg (arrK .u8 32 (byt A))) (.agg (arrK .u8 32 (byt B)))).run Tryd.prog w = .ok (decide (A = B)) w := by
 have h := run_equalIn_arr (P := Tryd.prog) w 9998 28 5 32 .u8 (arrK .u8 32 (byt A)) (arrK .u8 32 (byt B)) (byt A) (byt B) Tryd.underlying28 Tryd.underlying5 (by kernel_rfl)
  (fun i hi => arrK_get _ _ _ _ hi) (fun i hi => arrK_get _ _ _ _ hi)
 rw [h]
 congr 1
 rw [Bool.eq_iff_iff, eqArr_true, decide_eq_true_iff]
 exact ⟨byt_inj hA hB, fun h => by subst h; intro _ _; rfl⟩
attribute [local irreducible] hs4 sE sL sN

end Go.Proofs.YtndnlbinnhdmbaaDoor

set_option linter.unusedSimpArgs false
set_option linter.unusedVariables false
namespace Go.Proofs.YtndnlbinnhdmbaaDoor
set_option maxHeartbeats 3000000
set_option maxRecDepth 100000
open Go.RowKit
attribute [local irreducible] wpList wpTr wpX
set_option linter.unusedSimpArgs false
abbrev lfl (x : Nat × Nat) : List Value := (lf x.1 x.2).toList
attribute [local irreducible] hs4 sE sL sN

end Go.Proofs.YtndnlbinnhdmbaaDoor

set_option linter.unusedSimpArgs false
set_option linter.unusedVariables false
namespace Go.Proofs.YtndnlbinnhdmbaaDoor
/-! ### Lists of leaves, by the document -/
abbrev Lf := Nat × Nat
end Go.Proofs.YtndnlbinnhdmbaaDoor

set_option linter.unusedSimpArgs false
set_option linter.unusedVariables false
namespace Go.Proofs.YtndnlbinnhdmbaaDoor
/-! ### The leaves of a tree -/
/-! ### Lists, step by step -/
end Go.Proofs.YtndnlbinnhdmbaaDoor

set_option linter.unusedSimpArgs false
set_option linter.unusedVariables false
namespace Go.Proofs.YtndnlbinnhdmbaaDoor
set_option maxRecDepth 100000
open Go.RowKit
attribute [local irreducible] wpList wpTr wpX
set_option linter.unusedSimpArgs false
theorem RR.op {w : World} {u : Value} {ls : List Lf} (h : RR 64 w u (ls.map lfl)) : ∃ A c, u = .slice A ls.length c ∧ ls.length ≤ c ∧ Hid (∀ (j : Nat) (x : Lf), ls[j]? = some x → ∃ g o, A = some ⟨g, o, none⟩ ∧ ∀ (i : Nat) (v : Value), (lfl x)[i]? = some v → w.cell? ⟨g, o + j * 64 + i, none⟩ = some v) := by
 obtain ⟨A, c, h1, h2, _, h3⟩ := h
 rw [List.length_map] at h1 h2
 exact ⟨A, c, h1, h2, Lib.hid fun j x hj => h3 j (lfl x) (by rw [List.getElem?_map, hj]; rfl)⟩
theorem eqB (d : Nat) (A B : Nat) (hA : A < 2 ^ 256) (hB : B < 2 ^ 256) (xs ys : Array Value) (hx : ∀ i, i < 32 → xs[i]? = some (.int .u8 (byt A i))) (hy : ∀ i, i < 32 → ys[i]? = some (.int .u8 (byt B i))) (w : World) : (Op.equalIn (d + 2) 22 (.agg xs) (.agg ys)).run Tryd.prog w = .ok (decide (A = B)) w := by
 rw [run_equalIn_arr (P := Tryd.prog) w d 22 5 32 .u8 xs ys (byt A) (byt B) Tryd.underlying22 Tryd.underlying5 (by kernel_rfl) hx hy]
 congr 1
 rw [Bool.eq_iff_iff, eqArr_true, decide_eq_true_iff]
 exact ⟨byt_inj hA hB, fun h => by subst h; intro _ _; rfl⟩
theorem eqV32 (A B : Nat) (hA : A < 2 ^ 256) (hB : B < 2 ^ 256) (w : World) : (Op.equalIn 10000 22 (.agg (arrK .u8 32 (byt A))) (.agg (arrK .u8 32 (byt B)))).run Tryd.prog w = .ok (decide (A = B)) w :=
 eqB 9998 A B hA hB _ _ (fun i hi => arrK_get _ _ _ _ hi) (fun i hi => arrK_get _ _ _ _ hi) w
end Go.Proofs.YtndnlbinnhdmbaaDoor

set_option linter.unusedSimpArgs false
set_option linter.unusedVariables false
namespace Go.Proofs.YtndnlbinnhdmbaaDoor
set_option maxHeartbeats 3000000
set_option maxRecDepth 100000
open Go.RowKit
attribute [local irreducible] wpList wpTr wpX
set_option linter.unusedSimpArgs false
end Go.Proofs.YtndnlbinnhdmbaaDoor

set_option linter.unusedSimpArgs false
set_option linter.unusedVariables false
namespace Go.Proofs.YtndnlbinnhdmbaaDoor
set_option maxHeartbeats 3000000
set_option maxRecDepth 100000
open Go.RowKit
attribute [local irreducible] wpList wpTr wpX
set_option linter.unusedSimpArgs false

end Go.Proofs.YtndnlbinnhdmbaaDoor

set_option linter.unusedSimpArgs false
set_option linter.unusedVariables false
namespace Go.Proofs.YtndnlbinnhdmbaaDoor
set_option maxHeartbeats 3000000
set_option maxRecDepth 100000
open Go.RowKit
attribute [local irreducible] wpList wpTr wpX
set_option linter.unusedSimpArgs false
attribute [local irreducible] hs4 sE sL sN

end Go.Proofs.YtndnlbinnhdmbaaDoor

set_option linter.unusedSimpArgs false
set_option linter.unusedVariables false
namespace Go.Proofs.YtndnlbinnhdmbaaDoor
set_option maxHeartbeats 3000000
set_option maxRecDepth 100000
open Go.RowKit
attribute [local irreducible] wpList wpTr wpX
set_option linter.unusedSimpArgs false
attribute [local irreducible] hs4 sE sL sN

end Go.Proofs.YtndnlbinnhdmbaaDoor

set_option linter.unusedSimpArgs false
set_option linter.unusedVariables false
namespace Go.Proofs.YtndnlbinnhdmbaaDoor
set_option maxHeartbeats 3000000
set_option maxRecDepth 100000
open Go.RowKit
attribute [local irreducible] wpList wpTr wpX
set_option linter.unusedSimpArgs false
attribute [local irreducible] hs4 sE sL sN

end Go.Proofs.YtndnlbinnhdmbaaDoor

set_option linter.unusedSimpArgs false
set_option linter.unusedVariables false
namespace Go.Proofs.YtndnlbinnhdmbaaDoor
end Go.Proofs.YtndnlbinnhdmbaaDoor
