/- Generic parts: texts in rows, facts, calls that leave new things, results in cells. No conditions. What the rows of this seat share: structs, texts, slices, sums out of the arguments; a world for the witness. No conditions. Words of 64 bits as the model reckons with them; arrays by a place that varies. No conditions. sha5.turn, the document's turn: a word turned to the right. No conditions. sha5.spread: a block as 80 words. Conditions: the slice has 128 bytes. sha5.press: a block worked into eight words. Conditions: the slice has 128 bytes; the cells of the two tables hold their numbers. Rows of noughts, bytes of numbers, blocks of a sum: what sums of all kinds share. No conditions. -/
import Derived.Test.YtlbgelbhhibikaaJ7
import Derived.Test.YtlbgelbhhibikaaJ6
import Derived.Test.YtlbgelbhhibikaaRows
import Derived.ProofKit
import Derived.OpenShut
import Derived.Deep.Slices
import Derived.Deep.DeepHandedRow
import Derived.Carry
import Derived.Test.YtlbgelbhhibikaaGc
import Derived.Laws.BitsLemmas
import Derived.Lib.AppendZeros
set_option linter.unusedSimpArgs false
set_option linter.unusedVariables false
namespace Go.Proofs.Ytlbgelbhhibikaa
open Go.RowKit
attribute [local irreducible] wpList wpTr wpX
set_option linter.unusedSimpArgs false
/-- slices that read as texts -/
def TXS (W : World) (us : List Value) (ts : List (List UInt8)) : Prop := us.length = ts.length ∧ ∀ (i : Nat) (u : Value) (t : List UInt8), us[i]? = some u → ts[i]? = some t → Sl W u t
/-- the blocks that they look at -/
def txF : List Value → List (List UInt8) → List Nat
 | u :: us, t :: ts => (sb u t).toList ++ txF us ts
 | _, _ => []
theorem mem_txF {k : Nat} : ∀ {us : List Value} {ts : List (List UInt8)}, k ∈ txF us ts ↔ ∃ (i : Nat) (u : Value) (t : List UInt8), us[i]? = some u ∧ ts[i]? = some t ∧ sb u t = some k
 | [], _ => ⟨fun h => (by cases h), fun ⟨i, u, t, h, _⟩ => by simp at h⟩
 | _ :: _, [] => ⟨fun h => (by cases h), fun ⟨i, u, t, _, h, _⟩ => by simp at h⟩
 | u :: us, t :: ts => by
  show k ∈ (sb u t).toList ++ txF us ts ↔ _
  rw [List.mem_append, mem_txF]
  constructor
  ·
   rintro (h | ⟨i, v, s, h1, h2, h3⟩)
   ·
    exact ⟨0, u, t, rfl, rfl, As.mem_toList h⟩
   ·
    exact ⟨i + 1, v, s, h1, h2, h3⟩
  ·
   rintro ⟨i, v, s, h1, h2, h3⟩
   cases i with
   | zero =>
    obtain rfl : u = v := by simpa using h1
    obtain rfl : t = s := by simpa using h2
    exact .inl (by rw [h3]; simp)
   | succ i => exact .inr ⟨i, v, s, by simpa using h1, by simpa using h2, h3⟩
theorem sl_keep {w W : World} {v : Value} {l : List UInt8} (h : Sl w v l) (e : ∀ b, sb v l = some b → W.heap[b]? = w.heap[b]?) : Sl W v l := by
 obtain ⟨A, c, rfl, h1, h2, h0, h3⟩ := h
 refine ⟨A, c, rfl, h1, h2, h0, fun j x hj => ?_⟩
 obtain ⟨ad, hA, hc⟩ := h3 j x hj
 refine ⟨ad, hA, ?_⟩
 have hb : sb (.slice A l.length c) l = some ad.block := by
  unfold sb
  rw [if_neg (by rintro rfl; simp at hj), hA]; rfl
 have h4 := e _ hb
 rw [← hc]
 exact World.cell?_of_block (a := ad.add j) (w := w) (w' := W) (by rw [show (ad.add j).block = ad.block from by unfold Addr.add; split <;> rfl]; exact h4)
theorem TXS.holds {W : World} {us : List Value} {ts : List (List UInt8)} (h : TXS W us ts) : (As.p (txF us ts) (fun W => TXS W us ts)).holds W :=
 ⟨h, fun k hk => by obtain ⟨i, u, t, h1, h2, h3⟩ := mem_txF.1 hk; exact Sl.lt (h.2 i u t h1 h2) k h3,
 fun W' _ e => ⟨h.1, fun i u t h1 h2 => sl_keep (h.2 i u t h1 h2) fun b hb => e b (mem_txF.2 ⟨i, u, t, h1, h2, hb⟩)⟩⟩
namespace SH
variable {F : List Nat} {w W W' : World} {H X : List As} {i j : Nat}
/-- the things that a call has left, all of them new -/
theorem newL (h : SH F w W H) (h' : SH [] W W' X) (hf : ∀ y ∈ X, y.mv = false → ∀ k ∈ y.foot, W.heap.size ≤ k) (hx : X.all (fun y => (match y with | .t _ _ => false | _ => true) && H.all (tyOk y)) = true) : SH F w W' (X ++ H) := by
 have hn : ∀ y ∈ X, ∀ k ∈ y.foot, W.heap.size ≤ k := fun y hy k hk => by
  cases hm : y.mv with
  | false => exact hf y hy hm k hk
  | true => exact Nat.le_of_not_lt fun hlt => by have := h'.old y hy hm k hk hlt; cases this
 have h2 := h.next h'.off
 refine ⟨h2.off, fun y hy => ?_, List.pairwise_append.2 ⟨h'.ap, h2.ap, fun y hy z hz => ⟨fun hm => ?_, fun hm => ?_⟩⟩, fun y hy hm k hk hlt => ?_⟩
 ·
  rcases List.mem_append.1 hy with hy | hy
  ·
   exact h'.all y hy
  ·
   exact h2.all y hy
 ·
  have h3 := List.all_eq_true.1 hx y hy
  have h4 := As.lt (h.all z hz)
  cases z with
  | t T K =>
   have h5 := List.all_eq_true.1 (Bool.and_eq_true_iff.1 h3).2 _ hz
   simpa [tyOk, hm] using h5
  | _ => exact fun k hk hk' => Nat.not_lt.2 (hn y hy k hk) (h4 k hk')
 ·
  have h3 := List.all_eq_true.1 hx y hy
  have h4 := As.lt (h.all z hz)
  cases y with
  | t T K => simp at h3
  | _ => exact fun k hk hk' => Nat.not_lt.2 (hn _ hy k hk') (h4 k hk)
 ·
  rcases List.mem_append.1 hy with hy | hy
  ·
   have := hn y hy k hk; have := h.size; omega
  ·
   exact h2.old y hy hm k hk hlt
end SH
/-- a fact of no world -/
theorem MFact {P : Program} {ops : Array Oper} {k : Wk} {F : List Nat} {w : World} {H : List As} {l : List Oper} {a : Act} {p : Prop} (hp : ∀ W, SH F w W H → p) (h : p → wpM P ops k F w H l a) : wpM P ops k F w H l a := fun W hS => h (hp W hS) W hS
/-- a call that leaves new things -/
theorem ncallL {P : Program} {α : Type} {f : FuncId} {args : Array Value} {F : List Nat} {w W : World} {H : List As} {V : α → Value} {X : α → List As} (hS : SH F w W H) (hc : Calls P f args W fun e W' => ∃ x, e = .returned (V x) ∧ SH [] W W' (X x) ∧ ∀ y ∈ X x, y.mv = false → ∀ k ∈ y.foot, W.heap.size ≤ k) (ht : ∀ x, (X x).all (fun y => (match y with | .t _ _ => false | _ => true) && H.all (SH.tyOk y)) = true) :
  Calls P f args W fun e W' => ∃ x, e = .returned (V x) ∧ SH F w W' (X x ++ H) :=
 hc.mono fun e W' ⟨x, h1, h2, h3⟩ => ⟨x, h1, hS.newL h2 h3 (ht x)⟩
theorem res_c2 {P : Program} {fn : Func} {p q : Tmp} {ty t : TypeId} {tmps : Array Value} {w : World} {g : Nat} {cs : Array Value} {v : Value} (h : fn.results = #[.cell p ty, .tmp q])
  (hp : tmps.getD p undef = .pointer (some ⟨g, 0, none⟩)) (hq : tmps.getD q undef = v) (hB : Blk w g cs t) (hk : (P.underlying ty).map TypeDesc.isRow = some true) (hi : (P.info? ty).map (·.size) = some cs.size) :
  (results fn tmps).run P w = .ok (.tuple #[.agg cs, v]) w := by
 cases hu : P.underlying ty with
 | none => simp [hu] at hk
 | some d =>
  have hd : d.isRow = true := by simpa [hu] using hk
  have hp' : tmps[p]?.getD undef = .pointer (some ⟨g, 0, none⟩) := by simpa using hp
  have hq' : tmps[q]?.getD undef = v := by simpa using hq
  simp [results, h, hp', hq', asAddr, run_loadVar_row w g t ty cs _ d hB hu (by cases d <;> simp_all [TypeDesc.isRow]) hi]
end Go.Proofs.Ytlbgelbhhibikaa

set_option linter.unusedSimpArgs false
set_option linter.unusedVariables false
namespace Go.Proofs.Ytlbgelbhhibikaa
set_option maxRecDepth 100000
open Go.ChangeShapes Go.WideShapes Go.ChangeAt Go.RowKit Go.Deep
theorem own : ownKnob Try.prog.godebug = none := by kernel_rfl
theorem laidOut : laidOutB Try.prog = true := by kernel_rfl
theorem cellsU8 : Try.prog.cellsOf 5 = 1 := by kernel_rfl
/-- A world for the witness. -/
noncomputable def setWorld (os : Os) : World := World.holding Try.prog os ⟨#[], #[], []⟩
section
variable {H : Type} {enc : TypeId × Value → H} {W : World} {base : Nat} {sp : Nat → Bool} {held : Bool}
theorem sl_of_trod {fuel : Nat} {cs : List Value} {x : DataW H × List MemPlace} (h : DataW.trod enc Try.prog W base sp held fuel 26 cs = some x) : ∃ u l, (Sl W u l ∧ l.length ≤ maxLen) ∧ cs = [u] := by
  rcases open_slice Try.underlying26 h with ⟨rfl, _⟩ | ⟨a, len, cap, m, n, D, Pl, rfl, _, hl, hm, hmm, _, hi⟩
  · exact ⟨_, [], ⟨sl_nil W, by simp⟩, rfl⟩
  · have hlm : len ≤ m := by rw [hmm]; split <;> omega
    have key : ∀ i, i < len → ∃ c : UInt8, W.cell? (a.add i) = some (.int .u8 (c.toNat : Int)) := by
      intro i hi'
      obtain ⟨cs', h1, h2⟩ := hi i (by omega)
      rw [cellsU8, Nat.mul_one] at h1
      obtain ⟨_, hcl, hcell⟩ := World.cells?_some h1
      obtain ⟨z, hz, _, hw⟩ := DataW.trod_int Try.underlying5 h2
      have hb := bounds_u8 hw
      refine ⟨UInt8.ofNat z.toNat, ?_⟩
      have e : ((UInt8.ofNat z.toNat).toNat : Int) = z := by rw [UInt8.toNat_ofNat']; omega
      have := hcell 0 (by omega)
      rw [hz] at this
      rw [e]
      have e0 : ∀ b : Addr, b.add 0 = b := fun b => by unfold Addr.add; simp
      rw [e0] at this
      simpa using this
    refine ⟨_, (List.range len).map fun i => if h : i < len then Classical.choose (key i h) else 0, ⟨⟨some a, cap, by simp, by simpa using hl, hm, (fun h => by cases h), fun j x hj => ⟨a, rfl, ?_⟩⟩, by simp; omega⟩, rfl⟩
    have hjl : j < len := by have := (List.getElem?_eq_some_iff.1 hj).1; simpa using this
    simp [hjl] at hj
    subst hj
    exact Classical.choose_spec (key j hjl)
theorem open_sl {r : Reach} {b0 : Nat} {v : Value} {d : DataW H} {ps : List MemPlace} (hval : Value.okWide Try.prog W r b0 26 v) (hd : DataW.Trod enc Try.prog W base sp held 26 v d ps) : ∃ l, Sl W v l ∧ l.length ≤ maxLen := by
  obtain ⟨ao, len, cap, rfl⟩ := okWide_slice Try.underlying26 hval
  obtain ⟨fuel, hf⟩ := hd
  obtain ⟨u, l, ⟨h1, h2⟩, hc⟩ := sl_of_trod hf
  simp [Value.cells] at hc
  subst hc
  exact ⟨l, h1, h2⟩
end
end Go.Proofs.Ytlbgelbhhibikaa

set_option linter.unusedSimpArgs false
set_option linter.unusedVariables false
namespace Go.Proofs.Ytlbgelbhhibikaa
open Go.RowKit

def an (p q : Int) : Int := bits .and .u64 p q
def ad (p q : Int) : Int := IntKind.wrap .u64 (p + q)
def sl (p : Int) (n : Nat) : Int := IntKind.wrap .u64 (p * 2 ^ n)
section
variable {P : Program} {w : World} {o : Oper} {a : Act} {x y : Operand} {t t' : TypeId} {p q : Int}
end
end Go.Proofs.Ytlbgelbhhibikaa

set_option linter.unusedSimpArgs false
set_option linter.unusedVariables false
namespace Go.Proofs.Ytlbgelbhhibikaa
open Go.RowKit
set_option linter.unusedSimpArgs false
end Go.Proofs.Ytlbgelbhhibikaa

namespace Go.Proofs.Ytlbgelbhhibikaa
open Go.RowKit

section
variable {w : World} {o : Oper} {a : Act}
end
/-- the byte of a number -/
def u8 (n : Nat) : UInt8 := UInt8.ofNat n
theorem u8_nat (n : Nat) : (u8 n).toNat = n % 256 := UInt8.toNat_ofNat'
def be8 (X : Nat) : List UInt8 := [u8 (X / 72057594037927936), u8 (X / 281474976710656), u8 (X / 1099511627776), u8 (X / 4294967296), u8 (X / 16777216), u8 (X / 65536), u8 (X / 256), u8 X]
def w8 (x : Int) : Int := IntKind.wrap .u8 x
section
variable {P : Program} {w : World} {o : Oper} {a : Act} {x y : Operand} {t t' : TypeId} {p q : Int}
end
end Go.Proofs.Ytlbgelbhhibikaa
