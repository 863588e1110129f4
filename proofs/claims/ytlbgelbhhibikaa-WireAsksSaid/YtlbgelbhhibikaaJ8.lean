/- Generic parts: texts in rows, facts, calls that leave new things, results in cells. No conditions. What the rows of this seat share: structs, texts, slices, sums out of the arguments; a world for the witness. No conditions. Words of 64 bits as the model reckons with them; arrays by a place that varies. No conditions. sha5.turn, the document's turn: a word turned to the right. No conditions. sha5.spread: a block as 80 words. Conditions: the slice has 128 bytes. sha5.press: a block worked into eight words. Conditions: the slice has 128 bytes; the cells of the two tables hold their numbers. Rows of noughts, bytes of numbers, blocks of a sum: what sums of all kinds share. No conditions. -/
import Derived.Test.YtlbgelbhhibikaaJ7
import Derived.Test.YtlbgelbhhibikaaJ6
import Derived.Test.YtlbgelbhhibikaaRows
import Derived.ProofKit
import Derived.OpenShut
import Derived.Deep.Slices
import Derived.Deep.DeepHandedRow
import Derived.Carry
import Derived.Test.YtlbgelbhhibikaaGc
import Derived.Laws.BitsLemmas
import Derived.Lib.AppendZeros
set_option linter.unusedSimpArgs false
set_option linter.unusedVariables false
namespace Go.Proofs.Ytlbgelbhhibikaa
open Go.RowKit
attribute [local irreducible] wpList wpTr wpX
set_option linter.unusedSimpArgs false
/-- slices that read as texts -/
def TXS (W : World) (us : List Value) (ts : List (List UInt8)) : Prop := us.length = ts.length ∧ ∀ (i : Nat) (u : Value) (t : List UInt8), us[i]? = some u → ts[i]? = some t → Sl W u t
/-- the blocks that they look at -/
def txF : List Value → List (List UInt8) → List Nat
 | u :: us, t :: ts => (sb u t).toList ++ txF us ts
 | _, _ => []
theorem mem_txF {k : Nat} : ∀ {us : List Value} {ts : List (List UInt8)}, k ∈ txF us ts ↔ ∃ (i : Nat) (u : Value) (t : List UInt8), us[i]? = some u ∧ ts[i]? = some t ∧ sb u t = some k
 | [], _ => ⟨fun h => (by cases h), fun ⟨i, u, t, h, _⟩ => by simp at h⟩
 | _ :: _, [] => ⟨fun h => (by cases h), fun ⟨i, u, t, _, h, _⟩ => by simp at h⟩
 | u :: us, t :: ts => by
  show k ∈ (sb u t).toList ++ txF us ts ↔ _
  rw [List.mem_append, mem_txF]
  constructor
  ·
   rintro (h | ⟨i, v, s, h1, h2, h3⟩)
   ·
    exact ⟨0, u, t, rfl, rfl, As.mem_toList h⟩
   ·
    exact ⟨i + 1, v, s, h1, h2, h3⟩
  ·
   rintro ⟨i, v, s, h1, h2, h3⟩
   cases i with
   | zero =>
    obtain rfl : u = v := by simpa using h1
    obtain rfl : t = s := by simpa using h2
    exact .inl (by rw [h3]; simp)
   | succ i => exact .inr ⟨i, v, s, by simpa using h1, by simpa using h2, h3⟩
theorem sl_keep {w W : World} {v : Value} {l : List UInt8} (h : Sl w v l) (e : ∀ b, sb v l = some b → W.heap[b]? = w.heap[b]?) : Sl W v l := by
 obtain ⟨A, c, rfl, h1, h2, h0, h3⟩ := h
 refine ⟨A, c, rfl, h1, h2, h0, fun j x hj => ?_⟩
 obtain ⟨ad, hA, hc⟩ := h3 j x hj
 refine ⟨ad, hA, ?_⟩
 have hb : sb (.slice A l.length c) l = some ad.block := by
  unfold sb
  rw [if_neg (by rintro rfl; simp at hj), hA]; rfl
 have h4 := e _ hb
 rw [← hc]
 exact World.cell?_of_block (a := ad.add j) (w := w) (w' := W) (by rw [show (ad.add j).block = ad.block from by unfold Addr.add; split <;> rfl]; exact h4)
theorem TXS.holds {W : World} {us : List Value} {ts : List (List UInt8)} (h : TXS W us ts) : (As.p (txF us ts) (fun W => TXS W us ts)).holds W :=
 ⟨h, fun k hk => by obtain ⟨i, u, t, h1, h2, h3⟩ := mem_txF.1 hk; exact Sl.lt (h.2 i u t h1 h2) k h3,
 fun W' _ e => ⟨h.1, fun i u t h1 h2 => sl_keep (h.2 i u t h1 h2) fun b hb => e b (mem_txF.2 ⟨i, u, t, h1, h2, hb⟩)⟩⟩
namespace SH
variable {F : List Nat} {w W W' : World} {H X : List As} {i j : Nat}
/-- the things that a call has left, all of them new -/
theorem newL (h : SH F w W H) (h' : SH [] W W' X) (hf : ∀ y ∈ X, y.mv = false → ∀ k ∈ y.foot, W.heap.size ≤ k) (hx : X.all (fun y => (match y with | .t _ _ => false | _ => true) && H.all (tyOk y)) = true) : SH F w W' (X ++ H) := by
 have hn : ∀ y ∈ X, ∀ k ∈ y.foot, W.heap.size ≤ k := fun y hy k hk => by
  cases hm : y.mv with
  | false => exact hf y hy hm k hk
  | true => exact Nat.le_of_not_lt fun hlt => by have := h'.old y hy hm k hk hlt; cases this
 have h2 := h.next h'.off
 refine ⟨h2.off, fun y hy => ?_, List.pairwise_append.2 ⟨h'.ap, h2.ap, fun y hy z hz => ⟨fun hm => ?_, fun hm => ?_⟩⟩, fun y hy hm k hk hlt => ?_⟩
 ·
  rcases List.mem_append.1 hy with hy | hy
  ·
   exact h'.all y hy
  ·
   exact h2.all y hy
 ·
  have h3 := List.all_eq_true.1 hx y hy
  have h4 := As.lt (h.all z hz)
  cases z with
  | t T K =>
   have h5 := List.all_eq_true.1 (Bool.and_eq_true_iff.1 h3).2 _ hz
   simpa [tyOk, hm] using h5
  | _ => exact fun k hk hk' => Nat.not_lt.2 (hn y hy k hk) (h4 k hk')
 ·
  have h3 := List.all_eq_true.1 hx y hy
  have h4 := As.lt (h.all z hz)
  cases y with
  | t T K => simp at h3
  | _ => exact fun k hk hk' => Nat.not_lt.2 (hn _ hy k hk') (h4 k hk)
 ·
  rcases List.mem_append.1 hy with hy | hy
  ·
   have := hn y hy k hk; have := h.size; omega
  ·
   exact h2.old y hy hm k hk hlt
end SH
/-- a fact of no world -/
theorem MFact {P : Program} {ops : Array Oper} {k : Wk} {F : List Nat} {w : World} {H : List As} {l : List Oper} {a : Act} {p : Prop} (hp : ∀ W, SH F w W H → p) (h : p → wpM P ops k F w H l a) : wpM P ops k F w H l a := fun W hS => h (hp W hS) W hS
/-- a call that leaves new things -/
theorem ncallL {P : Program} {α : Type} {f : FuncId} {args : Array Value} {F : List Nat} {w W : World} {H : List As} {V : α → Value} {X : α → List As} (hS : SH F w W H) (hc : Calls P f args W fun e W' => ∃ x, e = .returned (V x) ∧ SH [] W W' (X x) ∧ ∀ y ∈ X x, y.mv = false → ∀ k ∈ y.foot, W.heap.size ≤ k) (ht : ∀ x, (X x).all (fun y => (match y with | .t _ _ => false | _ => true) && H.all (SH.tyOk y)) = true) :
  Calls P f args W fun e W' => ∃ x, e = .returned (V x) ∧ SH F w W' (X x ++ H) :=
 hc.mono fun e W' ⟨x, h1, h2, h3⟩ => ⟨x, h1, hS.newL h2 h3 (ht x)⟩
theorem res_c2 {P : Program} {fn : Func} {p q : Tmp} {ty t : TypeId} {tmps : Array Value} {w : World} {g : Nat} {cs : Array Value} {v : Value} (h : fn.results = #[.cell p ty, .tmp q])
  (hp : tmps.getD p undef = .pointer (some ⟨g, 0, none⟩)) (hq : tmps.getD q undef = v) (hB : Blk w g cs t) (hk : (P.underlying ty).map TypeDesc.isRow = some true) (hi : (P.info? ty).map (·.size) = some cs.size) :
  (results fn tmps).run P w = .ok (.tuple #[.agg cs, v]) w := by
 cases hu : P.underlying ty with
 | none => simp [hu] at hk
 | some d =>
  have hd : d.isRow = true := by simpa [hu] using hk
  have hp' : tmps[p]?.getD undef = .pointer (some ⟨g, 0, none⟩) := by simpa using hp
  have hq' : tmps[q]?.getD undef = v := by simpa using hq
  simp [results, h, hp', hq', asAddr, run_loadVar_row w g t ty cs _ d hB hu (by cases d <;> simp_all [TypeDesc.isRow]) hi]
end Go.Proofs.Ytlbgelbhhibikaa

set_option linter.unusedSimpArgs false
set_option linter.unusedVariables false
namespace Go.Proofs.Ytlbgelbhhibikaa
set_option maxRecDepth 100000
open Go.ChangeShapes Go.WideShapes Go.ChangeAt Go.RowKit Go.Deep
theorem own : ownKnob Try.prog.godebug = none := by kernel_rfl
theorem laidOut : laidOutB Try.prog = true := by kernel_rfl
/-- A world for the witness. -/
noncomputable def setWorld (os : Os) : World := World.holding Try.prog os ⟨#[], #[], []⟩
theorem cutp {cs : List Value} {o s o' : Nat} (h : o' = o + s) : cs.drop o = (cs.drop o).take s ++ cs.drop o' := by
  subst h; rw [← List.drop_drop, List.take_append_drop]
section
variable {H : Type} {enc : TypeId × Value → H} {W : World} {base : Nat} {sp : Nat → Bool} {held : Bool}
theorem trod_i {fuel : Nat} {t : TypeId} {cs : List Value} {x : DataW H × List MemPlace} (ht : Try.prog.underlying t = some (.int .i64)) (h : DataW.trod enc Try.prog W base sp held fuel t cs = some x) : ∃ n : Int, (-9223372036854775808 ≤ n ∧ n < 9223372036854775808) ∧ cs = [.int .i64 n] := by
  obtain ⟨n, hn, _, hw⟩ := DataW.trod_int ht h
  exact ⟨n, by have := bounds_i64 hw; omega, hn⟩
theorem trod_s {fuel : Nat} {t : TypeId} {cs : List Value} {x : DataW H × List MemPlace} (ht : Try.prog.underlying t = some .string) (h : DataW.trod enc Try.prog W base sp held fuel t cs = some x) : ∃ l : List UInt8, l.length ≤ maxLen ∧ cs = [str l] := by
  obtain ⟨s, hs, _, hl⟩ := DataW.trod_string ht h
  refine ⟨s.data.toList, ?_, ?_⟩
  · rw [Array.length_toList]; exact hl
  · rw [hs]; rfl
theorem trod__3_int {fuel : Nat} {cs : List Value} {x : DataW H × List MemPlace} (h : DataW.trod enc Try.prog W base sp held fuel 22 cs = some x) : ∃ (n1 : Int) (n2 : Int) (n3 : Int), (-9223372036854775808 ≤ n1 ∧ n1 < 9223372036854775808) ∧ (-9223372036854775808 ≤ n2 ∧ n2 < 9223372036854775808) ∧ (-9223372036854775808 ≤ n3 ∧ n3 < 9223372036854775808) ∧ cs = fcs [.c (.int .i64 n1), .c (.int .i64 n2), .c (.int .i64 n3)] := by
  obtain ⟨xs, n, _, _, hl, hxl, hg⟩ := DataW.trod_array Try.underlying22 h
  rw [show Try.prog.cellsOf 22 = 3 by kernel_rfl] at hl
  have hxs : xs.length = 3 := hxl
  have g0 : DataW.trod enc Try.prog W base sp held n 3 ((cs.drop (0 * Try.prog.cellsOf 3)).take (Try.prog.cellsOf 3)) = xs[0]? := hg 0 (by decide)
  rw [show Try.prog.cellsOf 3 = 1 by kernel_rfl, List.getElem?_eq_getElem (by omega)] at g0
  replace g0 : DataW.trod enc Try.prog W base sp held n 3 ((cs.drop 0).take 1) = some (xs[0]'(by omega)) := g0
  obtain ⟨n1, hf0_0, e0⟩ := trod_i Try.underlying3 g0
  have g1 : DataW.trod enc Try.prog W base sp held n 3 ((cs.drop (1 * Try.prog.cellsOf 3)).take (Try.prog.cellsOf 3)) = xs[1]? := hg 1 (by decide)
  rw [show Try.prog.cellsOf 3 = 1 by kernel_rfl, List.getElem?_eq_getElem (by omega)] at g1
  replace g1 : DataW.trod enc Try.prog W base sp held n 3 ((cs.drop 1).take 1) = some (xs[1]'(by omega)) := g1
  obtain ⟨n2, hf1_0, e1⟩ := trod_i Try.underlying3 g1
  have g2 : DataW.trod enc Try.prog W base sp held n 3 ((cs.drop (2 * Try.prog.cellsOf 3)).take (Try.prog.cellsOf 3)) = xs[2]? := hg 2 (by decide)
  rw [show Try.prog.cellsOf 3 = 1 by kernel_rfl, List.getElem?_eq_getElem (by omega)] at g2
  replace g2 : DataW.trod enc Try.prog W base sp held n 3 ((cs.drop 2).take 1) = some (xs[2]'(by omega)) := g2
  obtain ⟨n3, hf2_0, e2⟩ := trod_i Try.underlying3 g2
  refine ⟨n1, n2, n3, hf0_0, hf1_0, hf2_0, ?_⟩
  rw [show cs = cs.drop 0 from rfl]
  rw [cutp (cs := cs) (o := 0) (s := 1) (o' := 1) rfl, e0]
  conv => lhs; rw [cutp (cs := cs) (o := 1) (s := 1) (o' := 2) rfl, e1]
  conv => lhs; rw [cutp (cs := cs) (o := 2) (s := 1) (o' := 3) rfl, e2]
  rw [List.drop_eq_nil_of_le (Nat.le_of_eq hl)]
  rfl
theorem trod_custumalref24_Request {fuel : Nat} {cs : List Value} {x : DataW H × List MemPlace} (h : DataW.trod enc Try.prog W base sp held fuel 24 cs = some x) : ∃ (n1 : Int) (l2 : List UInt8) (l3 : List UInt8) (l4 : List UInt8) (n5 : Int) (n6 : Int) (n7 : Int) (n8 : Int) (l9 : List UInt8) (l10 : List UInt8) (n11 : Int) (n12 : Int) (l13 : List UInt8), (-9223372036854775808 ≤ n1 ∧ n1 < 9223372036854775808) ∧ l2.length ≤ maxLen ∧ l3.length ≤ maxLen ∧ l4.length ≤ maxLen ∧ (-9223372036854775808 ≤ n5 ∧ n5 < 9223372036854775808) ∧ (-9223372036854775808 ≤ n6 ∧ n6 < 9223372036854775808) ∧ (-9223372036854775808 ≤ n7 ∧ n7 < 9223372036854775808) ∧ (-9223372036854775808 ≤ n8 ∧ n8 < 9223372036854775808) ∧ l9.length ≤ maxLen ∧ l10.length ≤ maxLen ∧ (-9223372036854775808 ≤ n11 ∧ n11 < 9223372036854775808) ∧ (-9223372036854775808 ≤ n12 ∧ n12 < 9223372036854775808) ∧ l13.length ≤ maxLen ∧ cs = fcs [.c (.int .i64 n1), .c (str l2), .c (str l3), .c (str l4), .c (.int .i64 n5), .c (.int .i64 n6), .c (.int .i64 n7), .c (.int .i64 n8), .c (str l9), .c (str l10), .c (.int .i64 n11), .c (.int .i64 n12), .c (str l13)] := by
  obtain ⟨xs, n, _, _, hl, hxl, hg⟩ := DataW.trod_struct Try.underlying24 h
  rw [show Try.prog.cellsOf 24 = 13 by kernel_rfl] at hl
  have hxs : xs.length = 11 := hxl
  have g0 : DataW.trod enc Try.prog W base sp held n 3 ((cs.drop 0).take (Try.prog.cellsOf 3)) = xs[0]? := hg 0 _ rfl
  rw [show Try.prog.cellsOf 3 = 1 by kernel_rfl, List.getElem?_eq_getElem (by omega)] at g0
  replace g0 : DataW.trod enc Try.prog W base sp held n 3 ((cs.drop 0).take 1) = some (xs[0]'(by omega)) := g0
  obtain ⟨n1, hf0_0, e0⟩ := trod_i Try.underlying3 g0
  have g1 : DataW.trod enc Try.prog W base sp held n 9 ((cs.drop 1).take (Try.prog.cellsOf 9)) = xs[1]? := hg 1 _ rfl
  rw [show Try.prog.cellsOf 9 = 1 by kernel_rfl, List.getElem?_eq_getElem (by omega)] at g1
  replace g1 : DataW.trod enc Try.prog W base sp held n 9 ((cs.drop 1).take 1) = some (xs[1]'(by omega)) := g1
  obtain ⟨l2, hf1_0, e1⟩ := trod_s Try.underlying9 g1
  have g2 : DataW.trod enc Try.prog W base sp held n 9 ((cs.drop 2).take (Try.prog.cellsOf 9)) = xs[2]? := hg 2 _ rfl
  rw [show Try.prog.cellsOf 9 = 1 by kernel_rfl, List.getElem?_eq_getElem (by omega)] at g2
  replace g2 : DataW.trod enc Try.prog W base sp held n 9 ((cs.drop 2).take 1) = some (xs[2]'(by omega)) := g2
  obtain ⟨l3, hf2_0, e2⟩ := trod_s Try.underlying9 g2
  have g3 : DataW.trod enc Try.prog W base sp held n 9 ((cs.drop 3).take (Try.prog.cellsOf 9)) = xs[3]? := hg 3 _ rfl
  rw [show Try.prog.cellsOf 9 = 1 by kernel_rfl, List.getElem?_eq_getElem (by omega)] at g3
  replace g3 : DataW.trod enc Try.prog W base sp held n 9 ((cs.drop 3).take 1) = some (xs[3]'(by omega)) := g3
  obtain ⟨l4, hf3_0, e3⟩ := trod_s Try.underlying9 g3
  have g4 : DataW.trod enc Try.prog W base sp held n 22 ((cs.drop 4).take (Try.prog.cellsOf 22)) = xs[4]? := hg 4 _ rfl
  rw [show Try.prog.cellsOf 22 = 3 by kernel_rfl, List.getElem?_eq_getElem (by omega)] at g4
  replace g4 : DataW.trod enc Try.prog W base sp held n 22 ((cs.drop 4).take 3) = some (xs[4]'(by omega)) := g4
  obtain ⟨n5, n6, n7, hf4_0, hf4_1, hf4_2, e4⟩ := trod__3_int g4
  have g5 : DataW.trod enc Try.prog W base sp held n 3 ((cs.drop 7).take (Try.prog.cellsOf 3)) = xs[5]? := hg 5 _ rfl
  rw [show Try.prog.cellsOf 3 = 1 by kernel_rfl, List.getElem?_eq_getElem (by omega)] at g5
  replace g5 : DataW.trod enc Try.prog W base sp held n 3 ((cs.drop 7).take 1) = some (xs[5]'(by omega)) := g5
  obtain ⟨n8, hf5_0, e5⟩ := trod_i Try.underlying3 g5
  have g6 : DataW.trod enc Try.prog W base sp held n 9 ((cs.drop 8).take (Try.prog.cellsOf 9)) = xs[6]? := hg 6 _ rfl
  rw [show Try.prog.cellsOf 9 = 1 by kernel_rfl, List.getElem?_eq_getElem (by omega)] at g6
  replace g6 : DataW.trod enc Try.prog W base sp held n 9 ((cs.drop 8).take 1) = some (xs[6]'(by omega)) := g6
  obtain ⟨l9, hf6_0, e6⟩ := trod_s Try.underlying9 g6
  have g7 : DataW.trod enc Try.prog W base sp held n 9 ((cs.drop 9).take (Try.prog.cellsOf 9)) = xs[7]? := hg 7 _ rfl
  rw [show Try.prog.cellsOf 9 = 1 by kernel_rfl, List.getElem?_eq_getElem (by omega)] at g7
  replace g7 : DataW.trod enc Try.prog W base sp held n 9 ((cs.drop 9).take 1) = some (xs[7]'(by omega)) := g7
  obtain ⟨l10, hf7_0, e7⟩ := trod_s Try.underlying9 g7
  have g8 : DataW.trod enc Try.prog W base sp held n 3 ((cs.drop 10).take (Try.prog.cellsOf 3)) = xs[8]? := hg 8 _ rfl
  rw [show Try.prog.cellsOf 3 = 1 by kernel_rfl, List.getElem?_eq_getElem (by omega)] at g8
  replace g8 : DataW.trod enc Try.prog W base sp held n 3 ((cs.drop 10).take 1) = some (xs[8]'(by omega)) := g8
  obtain ⟨n11, hf8_0, e8⟩ := trod_i Try.underlying3 g8
  have g9 : DataW.trod enc Try.prog W base sp held n 3 ((cs.drop 11).take (Try.prog.cellsOf 3)) = xs[9]? := hg 9 _ rfl
  rw [show Try.prog.cellsOf 3 = 1 by kernel_rfl, List.getElem?_eq_getElem (by omega)] at g9
  replace g9 : DataW.trod enc Try.prog W base sp held n 3 ((cs.drop 11).take 1) = some (xs[9]'(by omega)) := g9
  obtain ⟨n12, hf9_0, e9⟩ := trod_i Try.underlying3 g9
  have g10 : DataW.trod enc Try.prog W base sp held n 9 ((cs.drop 12).take (Try.prog.cellsOf 9)) = xs[10]? := hg 10 _ rfl
  rw [show Try.prog.cellsOf 9 = 1 by kernel_rfl, List.getElem?_eq_getElem (by omega)] at g10
  replace g10 : DataW.trod enc Try.prog W base sp held n 9 ((cs.drop 12).take 1) = some (xs[10]'(by omega)) := g10
  obtain ⟨l13, hf10_0, e10⟩ := trod_s Try.underlying9 g10
  refine ⟨n1, l2, l3, l4, n5, n6, n7, n8, l9, l10, n11, n12, l13, hf0_0, hf1_0, hf2_0, hf3_0, hf4_0, hf4_1, hf4_2, hf5_0, hf6_0, hf7_0, hf8_0, hf9_0, hf10_0, ?_⟩
  rw [show cs = cs.drop 0 from rfl]
  rw [cutp (cs := cs) (o := 0) (s := 1) (o' := 1) rfl, e0]
  conv => lhs; rw [cutp (cs := cs) (o := 1) (s := 1) (o' := 2) rfl, e1]
  conv => lhs; rw [cutp (cs := cs) (o := 2) (s := 1) (o' := 3) rfl, e2]
  conv => lhs; rw [cutp (cs := cs) (o := 3) (s := 1) (o' := 4) rfl, e3]
  conv => lhs; rw [cutp (cs := cs) (o := 4) (s := 3) (o' := 7) rfl, e4]
  conv => lhs; rw [cutp (cs := cs) (o := 7) (s := 1) (o' := 8) rfl, e5]
  conv => lhs; rw [cutp (cs := cs) (o := 8) (s := 1) (o' := 9) rfl, e6]
  conv => lhs; rw [cutp (cs := cs) (o := 9) (s := 1) (o' := 10) rfl, e7]
  conv => lhs; rw [cutp (cs := cs) (o := 10) (s := 1) (o' := 11) rfl, e8]
  conv => lhs; rw [cutp (cs := cs) (o := 11) (s := 1) (o' := 12) rfl, e9]
  conv => lhs; rw [cutp (cs := cs) (o := 12) (s := 1) (o' := 13) rfl, e10]
  rw [List.drop_eq_nil_of_le (Nat.le_of_eq hl)]
  rfl
theorem open_custumalref24_Request {r : Reach} {b0 : Nat} {v : Value} {d : DataW H} {ps : List MemPlace} (hval : Value.okWide Try.prog W r b0 24 v) (hd : DataW.Trod enc Try.prog W base sp held 24 v d ps) : ∃ (n1 : Int) (l2 : List UInt8) (l3 : List UInt8) (l4 : List UInt8) (n5 : Int) (n6 : Int) (n7 : Int) (n8 : Int) (l9 : List UInt8) (l10 : List UInt8) (n11 : Int) (n12 : Int) (l13 : List UInt8), (-9223372036854775808 ≤ n1 ∧ n1 < 9223372036854775808) ∧ l2.length ≤ maxLen ∧ l3.length ≤ maxLen ∧ l4.length ≤ maxLen ∧ (-9223372036854775808 ≤ n5 ∧ n5 < 9223372036854775808) ∧ (-9223372036854775808 ≤ n6 ∧ n6 < 9223372036854775808) ∧ (-9223372036854775808 ≤ n7 ∧ n7 < 9223372036854775808) ∧ (-9223372036854775808 ≤ n8 ∧ n8 < 9223372036854775808) ∧ l9.length ≤ maxLen ∧ l10.length ≤ maxLen ∧ (-9223372036854775808 ≤ n11 ∧ n11 < 9223372036854775808) ∧ (-9223372036854775808 ≤ n12 ∧ n12 < 9223372036854775808) ∧ l13.length ≤ maxLen ∧ v = .agg (agF [.c (.int .i64 n1), .c (str l2), .c (str l3), .c (str l4), .c (.int .i64 n5), .c (.int .i64 n6), .c (.int .i64 n7), .c (.int .i64 n8), .c (str l9), .c (str l10), .c (.int .i64 n11), .c (.int .i64 n12), .c (str l13)]) := by
  obtain ⟨cs, rfl, _⟩ := okWide_struct Try.underlying24 hval
  obtain ⟨fuel, hf⟩ := hd
  obtain ⟨n1, l2, l3, l4, n5, n6, n7, n8, l9, l10, n11, n12, l13, h0, h1, h2, h3, h4, h5, h6, h7, h8, h9, h10, h11, h12, e⟩ := trod_custumalref24_Request hf
  exact ⟨n1, l2, l3, l4, n5, n6, n7, n8, l9, l10, n11, n12, l13, h0, h1, h2, h3, h4, h5, h6, h7, h8, h9, h10, h11, h12, by rw [show cs = agF [.c (.int .i64 n1), .c (str l2), .c (str l3), .c (str l4), .c (.int .i64 n5), .c (.int .i64 n6), .c (.int .i64 n7), .c (.int .i64 n8), .c (str l9), .c (str l10), .c (.int .i64 n11), .c (.int .i64 n12), .c (str l13)] from Array.toList_inj.1 e]⟩
end
end Go.Proofs.Ytlbgelbhhibikaa

set_option linter.unusedSimpArgs false
set_option linter.unusedVariables false
namespace Go.Proofs.Ytlbgelbhhibikaa
open Go.RowKit

def an (p q : Int) : Int := bits .and .u64 p q
def ad (p q : Int) : Int := IntKind.wrap .u64 (p + q)
def sl (p : Int) (n : Nat) : Int := IntKind.wrap .u64 (p * 2 ^ n)
section
variable {P : Program} {w : World} {o : Oper} {a : Act} {x y : Operand} {t t' : TypeId} {p q : Int}
end
end Go.Proofs.Ytlbgelbhhibikaa

set_option linter.unusedSimpArgs false
set_option linter.unusedVariables false
namespace Go.Proofs.Ytlbgelbhhibikaa
open Go.RowKit
set_option linter.unusedSimpArgs false
end Go.Proofs.Ytlbgelbhhibikaa

namespace Go.Proofs.Ytlbgelbhhibikaa
open Go.RowKit

section
variable {w : World} {o : Oper} {a : Act}
end
/-- the byte of a number -/
def u8 (n : Nat) : UInt8 := UInt8.ofNat n
theorem u8_nat (n : Nat) : (u8 n).toNat = n % 256 := UInt8.toNat_ofNat'
theorem u8_cast (n : Nat) : ((u8 n).toNat : Int) = (n : Int) % 256 := by rw [u8_nat]; rfl
def be8 (X : Nat) : List UInt8 := [u8 (X / 72057594037927936), u8 (X / 281474976710656), u8 (X / 1099511627776), u8 (X / 4294967296), u8 (X / 16777216), u8 (X / 65536), u8 (X / 256), u8 X]
def w8 (x : Int) : Int := IntKind.wrap .u8 x
section
variable {P : Program} {w : World} {o : Oper} {a : Act} {x y : Operand} {t t' : TypeId} {p q : Int}
end
end Go.Proofs.Ytlbgelbhhibikaa
