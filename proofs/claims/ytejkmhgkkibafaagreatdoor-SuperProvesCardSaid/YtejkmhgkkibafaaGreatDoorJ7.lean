/- What the rows of this seat share: structs, texts, slices, sums out of the arguments; a world for the witness. No conditions. An argument that is an array of integers, opened: its cells are integers of its kind. No conditions. -/
import Derived.Test.YtejkmhgkkibafaaGreatDoorRows
import Derived.Test.YtejkmhgkkibafaaGreatDoorJ6
import Derived.ProofKit
import Derived.OpenShut
import Derived.Deep.Slices
import Derived.Deep.DeepHandedRow
import Derived.Carry
import Derived.Test.YtejkmhgkkibafaaGreatDoorGa
import Derived.WalkKit
import Derived.Lib.LaidTab
set_option linter.unusedSimpArgs false
set_option linter.unusedVariables false
namespace Go.Proofs.YtejkmhgkkibafaaGreatDoor
section
set_option maxRecDepth 100000
open Go.ChangeShapes Go.WideShapes Go.ChangeAt Go.RowKit Go.Deep
theorem own : ownKnob Tryz.prog.godebug = none := by kernel_rfl
theorem Q7h : laidOutB Tryz.prog = true := by kernel_rfl
theorem Z30 : Tryz.prog.cellsOf 5 = 1 := by kernel_rfl
theorem Y2i {cs : List Value} {o s o' : Nat} (h : o' = o + s) : cs.drop o = (cs.drop o).take s ++ cs.drop o' := by
  subst h; rw [← List.drop_drop, List.take_append_drop]
section
variable {H : Type} {enc : TypeId × Value → H} {W : World} {base : Nat} {sp : Nat → Bool} {held : Bool}
theorem Z11 {fuel : Nat} {t e : TypeId} {n : Nat} {cs : List Value} {x : DataW H × List MemPlace} (ht : Tryz.prog.underlying t = some (.array n e)) (he : Tryz.prog.underlying e = some (.int .u8)) (hc : Tryz.prog.cellsOf e = 1) (hct : Tryz.prog.cellsOf t = n)
    (h : DataW.trod enc Tryz.prog W base sp held fuel t cs = some x) : ∃ S : List UInt8, cs = bs8 S ∧ S.length = n := by
  obtain ⟨xs, m, _, _, hl, hxl, hg⟩ := DataW.trod_array ht h
  rw [hct] at hl
  have key : ∀ i, i < n → ∃ c : UInt8, cs[i]? = some (.int .u8 (c.toNat : Int)) := by
    intro i hi
    have h1 := hg i hi
    rw [hc, Nat.mul_one, List.getElem?_eq_getElem (by omega)] at h1
    obtain ⟨z, hz, _, hw⟩ := DataW.trod_int he h1
    have hb := bounds_u8 hw
    have h0 := congrArg (fun l : List Value => l[0]?) hz
    rw [List.getElem?_take_of_lt (by omega), List.getElem?_drop] at h0
    refine ⟨UInt8.ofNat z.toNat, ?_⟩
    have e : ((UInt8.ofNat z.toNat).toNat : Int) = z := by
      rw [UInt8.toNat_ofNat']; omega
    rw [e]
    simpa using h0
  refine ⟨(List.range n).map fun i => if h : i < n then Classical.choose (key i h) else 0, ?_, by simp⟩
  apply List.ext_getElem?
  intro i
  by_cases hi : i < n
  · have := Classical.choose_spec (key i hi)
    rw [this]
    simp [bs8, hi]
  rw [List.getElem?_eq_none (by omega), List.getElem?_eq_none (by simp [bs8]; omega)]
theorem Q64 {fuel : Nat} {t : TypeId} {n : Nat} {cs : List Value} {x : DataW H × List MemPlace} (ht : Tryz.prog.underlying t = some (.array n 5)) (hct : Tryz.prog.cellsOf t = n)
    (h : DataW.trod enc Tryz.prog W base sp held fuel t cs = some x) : ∃ X : Nat, X < 2 ^ (8 * n) ∧ cs = (J0 .u8 n (Q5 X)).toList := by
  obtain ⟨L, rfl, hl⟩ := Z11 ht Tryz.underlying5 Z30 hct h
  exact ⟨le L, by rw [← hl]; exact Z2c L, by rw [V1r, Z0u hl]⟩
theorem Y7v {fuel : Nat} {t : TypeId} {cs : List Value} {x : DataW H × List MemPlace} (ht : Tryz.prog.underlying t = some (.int .i64)) (h : DataW.trod enc Tryz.prog W base sp held fuel t cs = some x) : ∃ n : Int, (-9223372036854775808 ≤ n ∧ n < 9223372036854775808) ∧ cs = [.int .i64 n] := by
  obtain ⟨n, hn, _, hw⟩ := DataW.trod_int ht h
  exact ⟨n, by have := bounds_i64 hw; omega, hn⟩
theorem Y2j {fuel : Nat} {t : TypeId} {cs : List Value} {x : DataW H × List MemPlace} (ht : Tryz.prog.underlying t = some .bool) (h : DataW.trod enc Tryz.prog W base sp held fuel t cs = some x) : ∃ b : Bool, True ∧ cs = [.bool b] := by
  obtain ⟨b, hb, _⟩ := DataW.trod_bool ht h
  exact ⟨b, trivial, hb⟩
theorem Q49 {fuel : Nat} {cs : List Value} {x : DataW H × List MemPlace} (h : DataW.trod enc Tryz.prog W base sp held fuel 22 cs = some x) : ∃ u l, (Sl W u l ∧ l.length ≤ maxLen) ∧ cs = [u] := by
  rcases open_slice Tryz.underlying22 h with ⟨rfl, _⟩ | ⟨a, len, cap, m, n, D, Pl, rfl, _, hl, hm, hmm, _, hi⟩
  · exact ⟨_, [], ⟨Y78 W, by simp⟩, rfl⟩
  have hlm : len ≤ m := by rw [hmm]; split <;> omega
  have key : ∀ i, i < len → ∃ c : UInt8, W.cell? (a.add i) = some (.int .u8 (c.toNat : Int)) := by
    intro i hi'
    obtain ⟨cs', h1, h2⟩ := hi i (by omega)
    rw [Z30, Nat.mul_one] at h1
    obtain ⟨_, hcl, hcell⟩ := World.cells?_some h1
    obtain ⟨z, hz, _, hw⟩ := DataW.trod_int Tryz.underlying5 h2
    have hb := bounds_u8 hw
    refine ⟨UInt8.ofNat z.toNat, ?_⟩
    have e : ((UInt8.ofNat z.toNat).toNat : Int) = z := by rw [UInt8.toNat_ofNat']; omega
    have := hcell 0 (by omega)
    rw [hz] at this
    rw [e]
    have e0 : ∀ b : Addr, b.add 0 = b := fun b => by unfold Addr.add; simp
    rw [e0] at this
    simpa using this
  refine ⟨_, (List.range len).map fun i => if h : i < len then Classical.choose (key i h) else 0, ⟨⟨some a, cap, by simp, by simpa using hl, hm, (fun h => by cases h), fun j x hj => ⟨a, rfl, ?_⟩⟩, by simp; omega⟩, rfl⟩
  have hjl : j < len := by have := (List.getElem?_eq_some_iff.1 hj).1; simpa using this
  simp [hjl] at hj
  subst hj
  exact Classical.choose_spec (key j hjl)
theorem Y2k {r : Reach} {b0 : Nat} {v : Value} {d : DataW H} {ps : List MemPlace} (hval : Value.okWide Tryz.prog W r b0 22 v) (hd : DataW.Trod enc Tryz.prog W base sp held 22 v d ps) : ∃ l, Sl W v l ∧ l.length ≤ maxLen := by
  obtain ⟨ao, len, cap, rfl⟩ := okWide_slice Tryz.underlying22 hval
  obtain ⟨fuel, hf⟩ := hd
  obtain ⟨u, l, ⟨h1, h2⟩, hc⟩ := Q49 hf
  simp [Value.cells] at hc
  subst hc
  exact ⟨l, h1, h2⟩
theorem Q1a {fuel : Nat} {cs : List Value} {x : DataW H × List MemPlace} (h : DataW.trod enc Tryz.prog W base sp held fuel 25 cs = some x) : ∃ (v1 : Value) (l2 : List UInt8) (b3 : Bool) (n4 : Int) (X5 : Nat), (Sl W v1 l2 ∧ l2.length ≤ maxLen) ∧ True ∧ (-9223372036854775808 ≤ n4 ∧ n4 < 9223372036854775808) ∧ X5 < 2 ^ (8 * 32) ∧ cs = fcs [.c v1, .c (.bool b3), .c (.int .i64 n4), .a 32 X5] := by
  obtain ⟨xs, n, _, _, hl, hxl, hg⟩ := DataW.trod_struct Tryz.underlying25 h
  rw [show Tryz.prog.cellsOf 25 = 35 by kernel_rfl] at hl
  have hxs : xs.length = 4 := hxl
  have g0 : DataW.trod enc Tryz.prog W base sp held n 22 ((cs.drop 0).take (Tryz.prog.cellsOf 22)) = xs[0]? := hg 0 _ rfl
  rw [show Tryz.prog.cellsOf 22 = 1 by kernel_rfl, List.getElem?_eq_getElem (by omega)] at g0
  replace g0 : DataW.trod enc Tryz.prog W base sp held n 22 ((cs.drop 0).take 1) = some (xs[0]'(by omega)) := g0
  obtain ⟨v1, l2, hf0_0, e0⟩ := Q49 g0
  have g1 : DataW.trod enc Tryz.prog W base sp held n 4 ((cs.drop 1).take (Tryz.prog.cellsOf 4)) = xs[1]? := hg 1 _ rfl
  rw [show Tryz.prog.cellsOf 4 = 1 by kernel_rfl, List.getElem?_eq_getElem (by omega)] at g1
  replace g1 : DataW.trod enc Tryz.prog W base sp held n 4 ((cs.drop 1).take 1) = some (xs[1]'(by omega)) := g1
  obtain ⟨b3, hf1_0, e1⟩ := Y2j Tryz.underlying4 g1
  have g2 : DataW.trod enc Tryz.prog W base sp held n 3 ((cs.drop 2).take (Tryz.prog.cellsOf 3)) = xs[2]? := hg 2 _ rfl
  rw [show Tryz.prog.cellsOf 3 = 1 by kernel_rfl, List.getElem?_eq_getElem (by omega)] at g2
  replace g2 : DataW.trod enc Tryz.prog W base sp held n 3 ((cs.drop 2).take 1) = some (xs[2]'(by omega)) := g2
  obtain ⟨n4, hf2_0, e2⟩ := Y7v Tryz.underlying3 g2
  have g3 : DataW.trod enc Tryz.prog W base sp held n 23 ((cs.drop 3).take (Tryz.prog.cellsOf 23)) = xs[3]? := hg 3 _ rfl
  rw [show Tryz.prog.cellsOf 23 = 32 by kernel_rfl, List.getElem?_eq_getElem (by omega)] at g3
  replace g3 : DataW.trod enc Tryz.prog W base sp held n 23 ((cs.drop 3).take 32) = some (xs[3]'(by omega)) := g3
  obtain ⟨X5, hf3_0, e3⟩ := Q64 Tryz.underlying23 (by kernel_rfl) g3
  refine ⟨v1, l2, b3, n4, X5, hf0_0, hf1_0, hf2_0, hf3_0, ?_⟩
  rw [show cs = cs.drop 0 from rfl]
  rw [Y2i (cs := cs) (o := 0) (s := 1) (o' := 1) rfl, e0]
  conv => lhs; rw [Y2i (cs := cs) (o := 1) (s := 1) (o' := 2) rfl, e1]
  conv => lhs; rw [Y2i (cs := cs) (o := 2) (s := 1) (o' := 3) rfl, e2]
  conv => lhs; rw [Y2i (cs := cs) (o := 3) (s := 32) (o' := 35) rfl, e3]
  rw [List.drop_eq_nil_of_le (Nat.le_of_eq hl)]
  rfl
end
end

section
open Go.RowKit Go.ChangeShapes Go.WideShapes Go.ChangeAt

end
end Go.Proofs.YtejkmhgkkibafaaGreatDoor
