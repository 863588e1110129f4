/- What the rows of this seat share: structs, texts, slices, sums out of the arguments; a world for the witness. No conditions. -/
import Derived.Test.YtlbgelbhhibikaaRows
import Derived.Test.YtlbgelbhhibikaaJ8
import Derived.Test.YtlbgelbhhibikaaMh
import Derived.ProofKit
import Derived.OpenShut
import Derived.Deep.Slices
import Derived.Deep.DeepHandedRow
import Derived.Carry
set_option linter.unusedSimpArgs false
set_option linter.unusedVariables false
namespace Go.Proofs.Ytlbgelbhhibikaa
set_option maxRecDepth 100000
open Go.ChangeShapes Go.WideShapes Go.ChangeAt Go.RowKit Go.Deep
theorem own : ownKnob Try.prog.godebug = none := by kernel_rfl
theorem laidOut : laidOutB Try.prog = true := by kernel_rfl
theorem cellsU8 : Try.prog.cellsOf 5 = 1 := by kernel_rfl
/-- A world for the witness. -/
noncomputable def setWorld (os : Os) : World := World.holding Try.prog os ⟨#[], #[], []⟩
theorem cutp {cs : List Value} {o s o' : Nat} (h : o' = o + s) : cs.drop o = (cs.drop o).take s ++ cs.drop o' := by
  subst h; rw [← List.drop_drop, List.take_append_drop]
section
variable {H : Type} {enc : TypeId × Value → H} {W : World} {base : Nat} {sp : Nat → Bool} {held : Bool}
/-- an argument without memory reads in any world as before -/
theorem stays {t : TypeId} (hr : Try.prog.readableRec t = true) (hrow : t < Try.prog.types.size) {W W' : World} {sp' : Nat → Bool} {v : Value} {d : DataW H}
    (h : DataW.Trod enc Try.prog W 0 (fun _ => true) true t v d []) : DataW.Trod enc Try.prog W' 0 sp' true t v d [] :=
  WideElems.Trod_stays laidOut hr hrow h (fun _ hp => by cases hp) (fun _ hp => by cases hp)
theorem trod_bytes {fuel : Nat} {t e : TypeId} {n : Nat} {cs : List Value} {x : DataW H × List MemPlace} (ht : Try.prog.underlying t = some (.array n e)) (he : Try.prog.underlying e = some (.int .u8)) (hc : Try.prog.cellsOf e = 1) (hct : Try.prog.cellsOf t = n)
    (h : DataW.trod enc Try.prog W base sp held fuel t cs = some x) : ∃ S : List UInt8, cs = bs8 S ∧ S.length = n := by
  obtain ⟨xs, m, _, _, hl, hxl, hg⟩ := DataW.trod_array ht h
  rw [hct] at hl
  have key : ∀ i, i < n → ∃ c : UInt8, cs[i]? = some (.int .u8 (c.toNat : Int)) := by
    intro i hi
    have h1 := hg i hi
    rw [hc, Nat.mul_one, List.getElem?_eq_getElem (by omega)] at h1
    obtain ⟨z, hz, _, hw⟩ := DataW.trod_int he h1
    have hb := bounds_u8 hw
    have h0 := congrArg (fun l : List Value => l[0]?) hz
    rw [List.getElem?_take_of_lt (by omega), List.getElem?_drop] at h0
    refine ⟨UInt8.ofNat z.toNat, ?_⟩
    have e : ((UInt8.ofNat z.toNat).toNat : Int) = z := by
      rw [UInt8.toNat_ofNat']; omega
    rw [e]
    simpa using h0
  refine ⟨(List.range n).map fun i => if h : i < n then Classical.choose (key i h) else 0, ?_, by simp⟩
  apply List.ext_getElem?
  intro i
  by_cases hi : i < n
  · have := Classical.choose_spec (key i hi)
    rw [this]
    simp [bs8, hi]
  · rw [List.getElem?_eq_none (by omega), List.getElem?_eq_none (by simp [bs8]; omega)]
theorem trod_arrN {fuel : Nat} {t : TypeId} {n : Nat} {cs : List Value} {x : DataW H × List MemPlace} (ht : Try.prog.underlying t = some (.array n 5)) (hct : Try.prog.cellsOf t = n)
    (h : DataW.trod enc Try.prog W base sp held fuel t cs = some x) : ∃ X : Nat, X < 2 ^ (8 * n) ∧ cs = (arrK .u8 n (byt X)).toList := by
  obtain ⟨L, rfl, hl⟩ := trod_bytes ht Try.underlying5 cellsU8 hct h
  exact ⟨le L, by rw [← hl]; exact le_lt L, by rw [arrL, lb_le' hl]⟩
theorem trod_i {fuel : Nat} {t : TypeId} {cs : List Value} {x : DataW H × List MemPlace} (ht : Try.prog.underlying t = some (.int .i64)) (h : DataW.trod enc Try.prog W base sp held fuel t cs = some x) : ∃ n : Int, (-9223372036854775808 ≤ n ∧ n < 9223372036854775808) ∧ cs = [.int .i64 n] := by
  obtain ⟨n, hn, _, hw⟩ := DataW.trod_int ht h
  exact ⟨n, by have := bounds_i64 hw; omega, hn⟩
theorem trod_s {fuel : Nat} {t : TypeId} {cs : List Value} {x : DataW H × List MemPlace} (ht : Try.prog.underlying t = some .string) (h : DataW.trod enc Try.prog W base sp held fuel t cs = some x) : ∃ l : List UInt8, l.length ≤ maxLen ∧ cs = [str l] := by
  obtain ⟨s, hs, _, hl⟩ := DataW.trod_string ht h
  refine ⟨s.data.toList, ?_, ?_⟩
  · rw [Array.length_toList]; exact hl
  · rw [hs]; rfl
theorem trod_bo {fuel : Nat} {t : TypeId} {cs : List Value} {x : DataW H × List MemPlace} (ht : Try.prog.underlying t = some .bool) (h : DataW.trod enc Try.prog W base sp held fuel t cs = some x) : ∃ b : Bool, True ∧ cs = [.bool b] := by
  obtain ⟨b, hb, _⟩ := DataW.trod_bool ht h
  exact ⟨b, trivial, hb⟩
theorem sl_of_trod {fuel : Nat} {cs : List Value} {x : DataW H × List MemPlace} (h : DataW.trod enc Try.prog W base sp held fuel 26 cs = some x) : ∃ u l, (Sl W u l ∧ l.length ≤ maxLen) ∧ cs = [u] := by
  rcases open_slice Try.underlying26 h with ⟨rfl, _⟩ | ⟨a, len, cap, m, n, D, Pl, rfl, _, hl, hm, hmm, _, hi⟩
  · exact ⟨_, [], ⟨sl_nil W, by simp⟩, rfl⟩
  · have hlm : len ≤ m := by rw [hmm]; split <;> omega
    have key : ∀ i, i < len → ∃ c : UInt8, W.cell? (a.add i) = some (.int .u8 (c.toNat : Int)) := by
      intro i hi'
      obtain ⟨cs', h1, h2⟩ := hi i (by omega)
      rw [cellsU8, Nat.mul_one] at h1
      obtain ⟨_, hcl, hcell⟩ := World.cells?_some h1
      obtain ⟨z, hz, _, hw⟩ := DataW.trod_int Try.underlying5 h2
      have hb := bounds_u8 hw
      refine ⟨UInt8.ofNat z.toNat, ?_⟩
      have e : ((UInt8.ofNat z.toNat).toNat : Int) = z := by rw [UInt8.toNat_ofNat']; omega
      have := hcell 0 (by omega)
      rw [hz] at this
      rw [e]
      have e0 : ∀ b : Addr, b.add 0 = b := fun b => by unfold Addr.add; simp
      rw [e0] at this
      simpa using this
    refine ⟨_, (List.range len).map fun i => if h : i < len then Classical.choose (key i h) else 0, ⟨⟨some a, cap, by simp, by simpa using hl, hm, (fun h => by cases h), fun j x hj => ⟨a, rfl, ?_⟩⟩, by simp; omega⟩, rfl⟩
    have hjl : j < len := by have := (List.getElem?_eq_some_iff.1 hj).1; simpa using this
    simp [hjl] at hj
    subst hj
    exact Classical.choose_spec (key j hjl)
theorem open_i {r : Reach} {b0 : Nat} {v : Value} {d : DataW H} {ps : List MemPlace} (hval : Value.okWide Try.prog W r b0 3 v) (hd : DataW.Trod enc Try.prog W base sp held 3 v d ps) : ∃ n : Int, v = .int .i64 n ∧ ps = [] ∧ (-9223372036854775808 ≤ n ∧ n < 9223372036854775808) := by
  obtain ⟨n, h1, _, hp, hw⟩ := open_int Try.underlying3 hval hd
  exact ⟨n, h1, hp, by have := bounds_i64 hw; omega⟩
theorem spot_none {W : World} {a : Addr} {v : Value} (h : W.cell? a = some v) : a.spot = none := by
  unfold World.cell? at h
  split at h
  · split at h
    · cases h
    · rename_i hs; cases hsp : a.spot with
      | none => rfl
      | some _ => rw [hsp] at hs; exact absurd rfl hs
  · cases h
theorem cells32 : Try.prog.cellsOf 27 = 32 := by kernel_rfl
theorem trod_32 {fuel : Nat} {cs : List Value} {x : DataW H × List MemPlace} (h : DataW.trod enc Try.prog W base sp held fuel 27 cs = some x) : ∃ k : Nat, k < 2 ^ 256 ∧ cs = (arrK .u8 32 (byt k)).toList := trod_arrN Try.underlying27 cells32 h
/-- sums in a row -/
theorem trod_sums {fuel : Nat} {v : Value} {x : DataW H × List MemPlace} (hf : DataW.trod enc Try.prog W base sp held fuel 48 [v] = some x) :
    ∃ ss : List Nat, (∀ y ∈ ss, y < 2 ^ 256) ∧ RR 32 W v (ss.map b32l) := by
  rcases open_slice Try.underlying48 hf with ⟨hcs, _⟩ | ⟨a, len, cap, m, n, D, Pl, hcs, _, hl, hm, hmm, _, hi⟩
  · obtain rfl : v = .slice none 0 0 := by simpa using hcs
    exact ⟨[], fun y hy => (by cases hy), rr_nil 32 W⟩
  · obtain rfl : v = .slice (some a) len cap := by simpa using hcs
    have hlm : len ≤ m := by rw [hmm]; split <;> omega
    have hs0 : 0 < len → a.spot = none := fun h => by
      obtain ⟨cs', h1, h2⟩ := hi 0 (by omega)
      rw [cells32] at h1
      obtain ⟨_, hcl, hcell⟩ := World.cells?_some h1
      have h0 := hcell 0 (by decide)
      rw [List.getElem?_eq_getElem (by rw [hcl]; decide)] at h0
      have h4 := spot_none h0
      simpa [Addr.add] using h4
    have key : ∀ i, i < len → ∃ k : Nat, k < 2 ^ 256 ∧ a.spot = none ∧ ∀ (j : Nat) (u : Value), (b32l k)[j]? = some u → W.cell? ⟨a.block, a.off + i * 32 + j, none⟩ = some u := by
      intro i hi'
      obtain ⟨cs', h1, h2⟩ := hi i (by omega)
      rw [cells32] at h1
      obtain ⟨_, hcl, hcell⟩ := World.cells?_some h1
      obtain ⟨k, hk, e⟩ := trod_32 h2
      rw [e] at hcl hcell
      have hs := hs0 (by omega)
      refine ⟨k, hk, hs, fun j u hj => ?_⟩
      have hj' : j < 32 := by
        have := (List.getElem?_eq_some_iff.1 hj).1
        have e : (b32l k).length = 32 := hcl
        omega
      have h3 := hcell j hj'
      rw [hj] at h3
      have e2 : (a.add (i * 32)).add j = ⟨a.block, a.off + i * 32 + j, none⟩ := by
        clear hcl hcell h1 h3 hi hmm hf
        obtain ⟨ab, ao', asp⟩ := a
        have hs' : asp = none := hs
        subst hs'; rw [Addr.add_mid, Addr.add_mid]
      rw [e2] at h3
      exact h3
    refine ⟨(List.range len).map fun i => if h : i < len then Classical.choose (key i h) else 0, fun y hy => ?_, some a, cap, by simp, by simpa using hl, fun e => (by cases e), fun j e hj => ?_⟩
    · obtain ⟨i, hi, rfl⟩ := List.mem_map.1 hy
      have hil := List.mem_range.1 hi
      rw [dif_pos hil]
      exact (Classical.choose_spec (key i hil)).1
    rw [List.map_map] at hj
    have hil : j < len := by have := (List.getElem?_eq_some_iff.1 hj).1; simpa using this
    rw [List.getElem?_map, List.getElem?_range hil] at hj
    have hj := Option.some.inj hj
    simp only [Function.comp_apply, dif_pos hil] at hj
    subst hj
    obtain ⟨_, h2, h3⟩ := Classical.choose_spec (key j hil)
    refine ⟨a.block, a.off, ?_, h3⟩
    rw [← h2]

theorem sums_of {fuel : Nat} {cs : List Value} {x : DataW H × List MemPlace} (h : DataW.trod enc Try.prog W base sp held fuel 48 cs = some x) (hl : cs.length = 1) : ∃ (v : Value) (ss : List Nat), ((∀ y ∈ ss, y < 2 ^ 256) ∧ RR 32 W v (ss.map b32l)) ∧ cs = [v] := by
  match cs, hl with
  | [v], _ => obtain ⟨ss, h1, h2⟩ := trod_sums h; exact ⟨v, ss, ⟨h1, h2⟩, rfl⟩
theorem trod_custumalref14_Leaf {fuel : Nat} {cs : List Value} {x : DataW H × List MemPlace} (h : DataW.trod enc Try.prog W base sp held fuel 50 cs = some x) : ∃ (X1 : Nat) (X2 : Nat), X1 < 2 ^ (8 * 32) ∧ X2 < 2 ^ (8 * 32) ∧ cs = fcs [.a 32 X1, .a 32 X2] := by
  obtain ⟨xs, n, _, _, hl, hxl, hg⟩ := DataW.trod_struct Try.underlying50 h
  rw [show Try.prog.cellsOf 50 = 64 by kernel_rfl] at hl
  have hxs : xs.length = 2 := hxl
  have g0 : DataW.trod enc Try.prog W base sp held n 27 ((cs.drop 0).take (Try.prog.cellsOf 27)) = xs[0]? := hg 0 _ rfl
  rw [show Try.prog.cellsOf 27 = 32 by kernel_rfl, List.getElem?_eq_getElem (by omega)] at g0
  replace g0 : DataW.trod enc Try.prog W base sp held n 27 ((cs.drop 0).take 32) = some (xs[0]'(by omega)) := g0
  obtain ⟨X1, hf0_0, e0⟩ := trod_arrN Try.underlying27 (by kernel_rfl) g0
  have g1 : DataW.trod enc Try.prog W base sp held n 27 ((cs.drop 32).take (Try.prog.cellsOf 27)) = xs[1]? := hg 1 _ rfl
  rw [show Try.prog.cellsOf 27 = 32 by kernel_rfl, List.getElem?_eq_getElem (by omega)] at g1
  replace g1 : DataW.trod enc Try.prog W base sp held n 27 ((cs.drop 32).take 32) = some (xs[1]'(by omega)) := g1
  obtain ⟨X2, hf1_0, e1⟩ := trod_arrN Try.underlying27 (by kernel_rfl) g1
  refine ⟨X1, X2, hf0_0, hf1_0, ?_⟩
  rw [show cs = cs.drop 0 from rfl]
  rw [cutp (cs := cs) (o := 0) (s := 32) (o' := 32) rfl, e0]
  conv => lhs; rw [cutp (cs := cs) (o := 32) (s := 32) (o' := 64) rfl, e1]
  rw [List.drop_eq_nil_of_le (Nat.le_of_eq hl)]
  rfl
theorem trod_custumalref15_Proof {fuel : Nat} {cs : List Value} {x : DataW H × List MemPlace} (h : DataW.trod enc Try.prog W base sp held fuel 52 cs = some x) : ∃ (v1 : Value) (ss2 : List Nat) (b3 : Bool) (X4 : Nat) (X5 : Nat), ((∀ y ∈ ss2, y < 2 ^ 256) ∧ RR 32 W v1 (ss2.map b32l)) ∧ True ∧ X4 < 2 ^ (8 * 32) ∧ X5 < 2 ^ (8 * 32) ∧ cs = fcs [.c v1, .c (.bool b3), .a 32 X4, .a 32 X5] := by
  obtain ⟨xs, n, _, _, hl, hxl, hg⟩ := DataW.trod_struct Try.underlying52 h
  rw [show Try.prog.cellsOf 52 = 66 by kernel_rfl] at hl
  have hxs : xs.length = 3 := hxl
  have g0 : DataW.trod enc Try.prog W base sp held n 48 ((cs.drop 0).take (Try.prog.cellsOf 48)) = xs[0]? := hg 0 _ rfl
  rw [show Try.prog.cellsOf 48 = 1 by kernel_rfl, List.getElem?_eq_getElem (by omega)] at g0
  replace g0 : DataW.trod enc Try.prog W base sp held n 48 ((cs.drop 0).take 1) = some (xs[0]'(by omega)) := g0
  obtain ⟨v1, ss2, hf0_0, e0⟩ := sums_of g0 (by rw [List.length_take, List.length_drop, hl]; decide)
  have g1 : DataW.trod enc Try.prog W base sp held n 4 ((cs.drop 1).take (Try.prog.cellsOf 4)) = xs[1]? := hg 1 _ rfl
  rw [show Try.prog.cellsOf 4 = 1 by kernel_rfl, List.getElem?_eq_getElem (by omega)] at g1
  replace g1 : DataW.trod enc Try.prog W base sp held n 4 ((cs.drop 1).take 1) = some (xs[1]'(by omega)) := g1
  obtain ⟨b3, hf1_0, e1⟩ := trod_bo Try.underlying4 g1
  have g2 : DataW.trod enc Try.prog W base sp held n 50 ((cs.drop 2).take (Try.prog.cellsOf 50)) = xs[2]? := hg 2 _ rfl
  rw [show Try.prog.cellsOf 50 = 64 by kernel_rfl, List.getElem?_eq_getElem (by omega)] at g2
  replace g2 : DataW.trod enc Try.prog W base sp held n 50 ((cs.drop 2).take 64) = some (xs[2]'(by omega)) := g2
  obtain ⟨X4, X5, hf2_0, hf2_1, e2⟩ := trod_custumalref14_Leaf g2
  refine ⟨v1, ss2, b3, X4, X5, hf0_0, hf1_0, hf2_0, hf2_1, ?_⟩
  rw [show cs = cs.drop 0 from rfl]
  rw [cutp (cs := cs) (o := 0) (s := 1) (o' := 1) rfl, e0]
  conv => lhs; rw [cutp (cs := cs) (o := 1) (s := 1) (o' := 2) rfl, e1]
  conv => lhs; rw [cutp (cs := cs) (o := 2) (s := 64) (o' := 66) rfl, e2]
  rw [List.drop_eq_nil_of_le (Nat.le_of_eq hl)]
  rfl
theorem trod_custumalref24_Found {fuel : Nat} {cs : List Value} {x : DataW H × List MemPlace} (h : DataW.trod enc Try.prog W base sp held fuel 54 cs = some x) : ∃ (n1 : Int) (l2 : List UInt8) (l3 : List UInt8) (b4 : Bool) (n5 : Int) (l6 : List UInt8) (l7 : List UInt8) (l8 : List UInt8) (v9 : Value) (ss10 : List Nat) (b11 : Bool) (X12 : Nat) (X13 : Nat) (l14 : List UInt8) (l15 : List UInt8) (l16 : List UInt8) (n17 : Int), (-9223372036854775808 ≤ n1 ∧ n1 < 9223372036854775808) ∧ l2.length ≤ maxLen ∧ l3.length ≤ maxLen ∧ True ∧ (-9223372036854775808 ≤ n5 ∧ n5 < 9223372036854775808) ∧ l6.length ≤ maxLen ∧ l7.length ≤ maxLen ∧ l8.length ≤ maxLen ∧ ((∀ y ∈ ss10, y < 2 ^ 256) ∧ RR 32 W v9 (ss10.map b32l)) ∧ True ∧ X12 < 2 ^ (8 * 32) ∧ X13 < 2 ^ (8 * 32) ∧ l14.length ≤ maxLen ∧ l15.length ≤ maxLen ∧ l16.length ≤ maxLen ∧ (-9223372036854775808 ≤ n17 ∧ n17 < 9223372036854775808) ∧ cs = fcs [.c (.int .i64 n1), .c (str l2), .c (str l3), .c (.bool b4), .c (.int .i64 n5), .c (str l6), .c (str l7), .c (str l8), .c v9, .c (.bool b11), .a 32 X12, .a 32 X13, .c (str l14), .c (str l15), .c (str l16), .c (.int .i64 n17)] := by
  obtain ⟨xs, n, _, _, hl, hxl, hg⟩ := DataW.trod_struct Try.underlying54 h
  rw [show Try.prog.cellsOf 54 = 78 by kernel_rfl] at hl
  have hxs : xs.length = 13 := hxl
  have g0 : DataW.trod enc Try.prog W base sp held n 3 ((cs.drop 0).take (Try.prog.cellsOf 3)) = xs[0]? := hg 0 _ rfl
  rw [show Try.prog.cellsOf 3 = 1 by kernel_rfl, List.getElem?_eq_getElem (by omega)] at g0
  replace g0 : DataW.trod enc Try.prog W base sp held n 3 ((cs.drop 0).take 1) = some (xs[0]'(by omega)) := g0
  obtain ⟨n1, hf0_0, e0⟩ := trod_i Try.underlying3 g0
  have g1 : DataW.trod enc Try.prog W base sp held n 9 ((cs.drop 1).take (Try.prog.cellsOf 9)) = xs[1]? := hg 1 _ rfl
  rw [show Try.prog.cellsOf 9 = 1 by kernel_rfl, List.getElem?_eq_getElem (by omega)] at g1
  replace g1 : DataW.trod enc Try.prog W base sp held n 9 ((cs.drop 1).take 1) = some (xs[1]'(by omega)) := g1
  obtain ⟨l2, hf1_0, e1⟩ := trod_s Try.underlying9 g1
  have g2 : DataW.trod enc Try.prog W base sp held n 9 ((cs.drop 2).take (Try.prog.cellsOf 9)) = xs[2]? := hg 2 _ rfl
  rw [show Try.prog.cellsOf 9 = 1 by kernel_rfl, List.getElem?_eq_getElem (by omega)] at g2
  replace g2 : DataW.trod enc Try.prog W base sp held n 9 ((cs.drop 2).take 1) = some (xs[2]'(by omega)) := g2
  obtain ⟨l3, hf2_0, e2⟩ := trod_s Try.underlying9 g2
  have g3 : DataW.trod enc Try.prog W base sp held n 4 ((cs.drop 3).take (Try.prog.cellsOf 4)) = xs[3]? := hg 3 _ rfl
  rw [show Try.prog.cellsOf 4 = 1 by kernel_rfl, List.getElem?_eq_getElem (by omega)] at g3
  replace g3 : DataW.trod enc Try.prog W base sp held n 4 ((cs.drop 3).take 1) = some (xs[3]'(by omega)) := g3
  obtain ⟨b4, hf3_0, e3⟩ := trod_bo Try.underlying4 g3
  have g4 : DataW.trod enc Try.prog W base sp held n 3 ((cs.drop 4).take (Try.prog.cellsOf 3)) = xs[4]? := hg 4 _ rfl
  rw [show Try.prog.cellsOf 3 = 1 by kernel_rfl, List.getElem?_eq_getElem (by omega)] at g4
  replace g4 : DataW.trod enc Try.prog W base sp held n 3 ((cs.drop 4).take 1) = some (xs[4]'(by omega)) := g4
  obtain ⟨n5, hf4_0, e4⟩ := trod_i Try.underlying3 g4
  have g5 : DataW.trod enc Try.prog W base sp held n 9 ((cs.drop 5).take (Try.prog.cellsOf 9)) = xs[5]? := hg 5 _ rfl
  rw [show Try.prog.cellsOf 9 = 1 by kernel_rfl, List.getElem?_eq_getElem (by omega)] at g5
  replace g5 : DataW.trod enc Try.prog W base sp held n 9 ((cs.drop 5).take 1) = some (xs[5]'(by omega)) := g5
  obtain ⟨l6, hf5_0, e5⟩ := trod_s Try.underlying9 g5
  have g6 : DataW.trod enc Try.prog W base sp held n 9 ((cs.drop 6).take (Try.prog.cellsOf 9)) = xs[6]? := hg 6 _ rfl
  rw [show Try.prog.cellsOf 9 = 1 by kernel_rfl, List.getElem?_eq_getElem (by omega)] at g6
  replace g6 : DataW.trod enc Try.prog W base sp held n 9 ((cs.drop 6).take 1) = some (xs[6]'(by omega)) := g6
  obtain ⟨l7, hf6_0, e6⟩ := trod_s Try.underlying9 g6
  have g7 : DataW.trod enc Try.prog W base sp held n 9 ((cs.drop 7).take (Try.prog.cellsOf 9)) = xs[7]? := hg 7 _ rfl
  rw [show Try.prog.cellsOf 9 = 1 by kernel_rfl, List.getElem?_eq_getElem (by omega)] at g7
  replace g7 : DataW.trod enc Try.prog W base sp held n 9 ((cs.drop 7).take 1) = some (xs[7]'(by omega)) := g7
  obtain ⟨l8, hf7_0, e7⟩ := trod_s Try.underlying9 g7
  have g8 : DataW.trod enc Try.prog W base sp held n 52 ((cs.drop 8).take (Try.prog.cellsOf 52)) = xs[8]? := hg 8 _ rfl
  rw [show Try.prog.cellsOf 52 = 66 by kernel_rfl, List.getElem?_eq_getElem (by omega)] at g8
  replace g8 : DataW.trod enc Try.prog W base sp held n 52 ((cs.drop 8).take 66) = some (xs[8]'(by omega)) := g8
  obtain ⟨v9, ss10, b11, X12, X13, hf8_0, hf8_1, hf8_2, hf8_3, e8⟩ := trod_custumalref15_Proof g8
  have g9 : DataW.trod enc Try.prog W base sp held n 9 ((cs.drop 74).take (Try.prog.cellsOf 9)) = xs[9]? := hg 9 _ rfl
  rw [show Try.prog.cellsOf 9 = 1 by kernel_rfl, List.getElem?_eq_getElem (by omega)] at g9
  replace g9 : DataW.trod enc Try.prog W base sp held n 9 ((cs.drop 74).take 1) = some (xs[9]'(by omega)) := g9
  obtain ⟨l14, hf9_0, e9⟩ := trod_s Try.underlying9 g9
  have g10 : DataW.trod enc Try.prog W base sp held n 9 ((cs.drop 75).take (Try.prog.cellsOf 9)) = xs[10]? := hg 10 _ rfl
  rw [show Try.prog.cellsOf 9 = 1 by kernel_rfl, List.getElem?_eq_getElem (by omega)] at g10
  replace g10 : DataW.trod enc Try.prog W base sp held n 9 ((cs.drop 75).take 1) = some (xs[10]'(by omega)) := g10
  obtain ⟨l15, hf10_0, e10⟩ := trod_s Try.underlying9 g10
  have g11 : DataW.trod enc Try.prog W base sp held n 9 ((cs.drop 76).take (Try.prog.cellsOf 9)) = xs[11]? := hg 11 _ rfl
  rw [show Try.prog.cellsOf 9 = 1 by kernel_rfl, List.getElem?_eq_getElem (by omega)] at g11
  replace g11 : DataW.trod enc Try.prog W base sp held n 9 ((cs.drop 76).take 1) = some (xs[11]'(by omega)) := g11
  obtain ⟨l16, hf11_0, e11⟩ := trod_s Try.underlying9 g11
  have g12 : DataW.trod enc Try.prog W base sp held n 3 ((cs.drop 77).take (Try.prog.cellsOf 3)) = xs[12]? := hg 12 _ rfl
  rw [show Try.prog.cellsOf 3 = 1 by kernel_rfl, List.getElem?_eq_getElem (by omega)] at g12
  replace g12 : DataW.trod enc Try.prog W base sp held n 3 ((cs.drop 77).take 1) = some (xs[12]'(by omega)) := g12
  obtain ⟨n17, hf12_0, e12⟩ := trod_i Try.underlying3 g12
  refine ⟨n1, l2, l3, b4, n5, l6, l7, l8, v9, ss10, b11, X12, X13, l14, l15, l16, n17, hf0_0, hf1_0, hf2_0, hf3_0, hf4_0, hf5_0, hf6_0, hf7_0, hf8_0, hf8_1, hf8_2, hf8_3, hf9_0, hf10_0, hf11_0, hf12_0, ?_⟩
  rw [show cs = cs.drop 0 from rfl]
  rw [cutp (cs := cs) (o := 0) (s := 1) (o' := 1) rfl, e0]
  conv => lhs; rw [cutp (cs := cs) (o := 1) (s := 1) (o' := 2) rfl, e1]
  conv => lhs; rw [cutp (cs := cs) (o := 2) (s := 1) (o' := 3) rfl, e2]
  conv => lhs; rw [cutp (cs := cs) (o := 3) (s := 1) (o' := 4) rfl, e3]
  conv => lhs; rw [cutp (cs := cs) (o := 4) (s := 1) (o' := 5) rfl, e4]
  conv => lhs; rw [cutp (cs := cs) (o := 5) (s := 1) (o' := 6) rfl, e5]
  conv => lhs; rw [cutp (cs := cs) (o := 6) (s := 1) (o' := 7) rfl, e6]
  conv => lhs; rw [cutp (cs := cs) (o := 7) (s := 1) (o' := 8) rfl, e7]
  conv => lhs; rw [cutp (cs := cs) (o := 8) (s := 66) (o' := 74) rfl, e8]
  conv => lhs; rw [cutp (cs := cs) (o := 74) (s := 1) (o' := 75) rfl, e9]
  conv => lhs; rw [cutp (cs := cs) (o := 75) (s := 1) (o' := 76) rfl, e10]
  conv => lhs; rw [cutp (cs := cs) (o := 76) (s := 1) (o' := 77) rfl, e11]
  conv => lhs; rw [cutp (cs := cs) (o := 77) (s := 1) (o' := 78) rfl, e12]
  rw [List.drop_eq_nil_of_le (Nat.le_of_eq hl)]
  rfl
theorem trod_custumallaw24_Told {fuel : Nat} {cs : List Value} {x : DataW H × List MemPlace} (h : DataW.trod enc Try.prog W base sp held fuel 74 cs = some x) : ∃ (n1 : Int) (n2 : Int) (n3 : Int) (n4 : Int) (l5 : List UInt8) (l6 : List UInt8) (b7 : Bool) (n8 : Int) (l9 : List UInt8) (l10 : List UInt8) (l11 : List UInt8) (v12 : Value) (ss13 : List Nat) (b14 : Bool) (X15 : Nat) (X16 : Nat) (l17 : List UInt8) (l18 : List UInt8) (l19 : List UInt8) (n20 : Int) (X21 : Nat) (v22 : Value) (ss23 : List Nat) (v24 : Value) (l25 : List UInt8) (b26 : Bool), (-9223372036854775808 ≤ n1 ∧ n1 < 9223372036854775808) ∧ (-9223372036854775808 ≤ n2 ∧ n2 < 9223372036854775808) ∧ (-9223372036854775808 ≤ n3 ∧ n3 < 9223372036854775808) ∧ (-9223372036854775808 ≤ n4 ∧ n4 < 9223372036854775808) ∧ l5.length ≤ maxLen ∧ l6.length ≤ maxLen ∧ True ∧ (-9223372036854775808 ≤ n8 ∧ n8 < 9223372036854775808) ∧ l9.length ≤ maxLen ∧ l10.length ≤ maxLen ∧ l11.length ≤ maxLen ∧ ((∀ y ∈ ss13, y < 2 ^ 256) ∧ RR 32 W v12 (ss13.map b32l)) ∧ True ∧ X15 < 2 ^ (8 * 32) ∧ X16 < 2 ^ (8 * 32) ∧ l17.length ≤ maxLen ∧ l18.length ≤ maxLen ∧ l19.length ≤ maxLen ∧ (-9223372036854775808 ≤ n20 ∧ n20 < 9223372036854775808) ∧ X21 < 2 ^ (8 * 32) ∧ ((∀ y ∈ ss23, y < 2 ^ 256) ∧ RR 32 W v22 (ss23.map b32l)) ∧ (Sl W v24 l25 ∧ l25.length ≤ maxLen) ∧ True ∧ cs = fcs [.c (.int .i64 n1), .c (.int .i64 n2), .c (.int .i64 n3), .c (.int .i64 n4), .c (str l5), .c (str l6), .c (.bool b7), .c (.int .i64 n8), .c (str l9), .c (str l10), .c (str l11), .c v12, .c (.bool b14), .a 32 X15, .a 32 X16, .c (str l17), .c (str l18), .c (str l19), .c (.int .i64 n20), .a 32 X21, .c v22, .c v24, .c (.bool b26)] := by
  obtain ⟨xs, n, _, _, hl, hxl, hg⟩ := DataW.trod_struct Try.underlying74 h
  rw [show Try.prog.cellsOf 74 = 116 by kernel_rfl] at hl
  have hxs : xs.length = 8 := hxl
  have g0 : DataW.trod enc Try.prog W base sp held n 3 ((cs.drop 0).take (Try.prog.cellsOf 3)) = xs[0]? := hg 0 _ rfl
  rw [show Try.prog.cellsOf 3 = 1 by kernel_rfl, List.getElem?_eq_getElem (by omega)] at g0
  replace g0 : DataW.trod enc Try.prog W base sp held n 3 ((cs.drop 0).take 1) = some (xs[0]'(by omega)) := g0
  obtain ⟨n1, hf0_0, e0⟩ := trod_i Try.underlying3 g0
  have g1 : DataW.trod enc Try.prog W base sp held n 3 ((cs.drop 1).take (Try.prog.cellsOf 3)) = xs[1]? := hg 1 _ rfl
  rw [show Try.prog.cellsOf 3 = 1 by kernel_rfl, List.getElem?_eq_getElem (by omega)] at g1
  replace g1 : DataW.trod enc Try.prog W base sp held n 3 ((cs.drop 1).take 1) = some (xs[1]'(by omega)) := g1
  obtain ⟨n2, hf1_0, e1⟩ := trod_i Try.underlying3 g1
  have g2 : DataW.trod enc Try.prog W base sp held n 3 ((cs.drop 2).take (Try.prog.cellsOf 3)) = xs[2]? := hg 2 _ rfl
  rw [show Try.prog.cellsOf 3 = 1 by kernel_rfl, List.getElem?_eq_getElem (by omega)] at g2
  replace g2 : DataW.trod enc Try.prog W base sp held n 3 ((cs.drop 2).take 1) = some (xs[2]'(by omega)) := g2
  obtain ⟨n3, hf2_0, e2⟩ := trod_i Try.underlying3 g2
  have g3 : DataW.trod enc Try.prog W base sp held n 54 ((cs.drop 3).take (Try.prog.cellsOf 54)) = xs[3]? := hg 3 _ rfl
  rw [show Try.prog.cellsOf 54 = 78 by kernel_rfl, List.getElem?_eq_getElem (by omega)] at g3
  replace g3 : DataW.trod enc Try.prog W base sp held n 54 ((cs.drop 3).take 78) = some (xs[3]'(by omega)) := g3
  obtain ⟨n4, l5, l6, b7, n8, l9, l10, l11, v12, ss13, b14, X15, X16, l17, l18, l19, n20, hf3_0, hf3_1, hf3_2, hf3_3, hf3_4, hf3_5, hf3_6, hf3_7, hf3_8, hf3_9, hf3_10, hf3_11, hf3_12, hf3_13, hf3_14, hf3_15, e3⟩ := trod_custumalref24_Found g3
  have g4 : DataW.trod enc Try.prog W base sp held n 27 ((cs.drop 81).take (Try.prog.cellsOf 27)) = xs[4]? := hg 4 _ rfl
  rw [show Try.prog.cellsOf 27 = 32 by kernel_rfl, List.getElem?_eq_getElem (by omega)] at g4
  replace g4 : DataW.trod enc Try.prog W base sp held n 27 ((cs.drop 81).take 32) = some (xs[4]'(by omega)) := g4
  obtain ⟨X21, hf4_0, e4⟩ := trod_arrN Try.underlying27 (by kernel_rfl) g4
  have g5 : DataW.trod enc Try.prog W base sp held n 48 ((cs.drop 113).take (Try.prog.cellsOf 48)) = xs[5]? := hg 5 _ rfl
  rw [show Try.prog.cellsOf 48 = 1 by kernel_rfl, List.getElem?_eq_getElem (by omega)] at g5
  replace g5 : DataW.trod enc Try.prog W base sp held n 48 ((cs.drop 113).take 1) = some (xs[5]'(by omega)) := g5
  obtain ⟨v22, ss23, hf5_0, e5⟩ := sums_of g5 (by rw [List.length_take, List.length_drop, hl]; decide)
  have g6 : DataW.trod enc Try.prog W base sp held n 26 ((cs.drop 114).take (Try.prog.cellsOf 26)) = xs[6]? := hg 6 _ rfl
  rw [show Try.prog.cellsOf 26 = 1 by kernel_rfl, List.getElem?_eq_getElem (by omega)] at g6
  replace g6 : DataW.trod enc Try.prog W base sp held n 26 ((cs.drop 114).take 1) = some (xs[6]'(by omega)) := g6
  obtain ⟨v24, l25, hf6_0, e6⟩ := sl_of_trod g6
  have g7 : DataW.trod enc Try.prog W base sp held n 4 ((cs.drop 115).take (Try.prog.cellsOf 4)) = xs[7]? := hg 7 _ rfl
  rw [show Try.prog.cellsOf 4 = 1 by kernel_rfl, List.getElem?_eq_getElem (by omega)] at g7
  replace g7 : DataW.trod enc Try.prog W base sp held n 4 ((cs.drop 115).take 1) = some (xs[7]'(by omega)) := g7
  obtain ⟨b26, hf7_0, e7⟩ := trod_bo Try.underlying4 g7
  refine ⟨n1, n2, n3, n4, l5, l6, b7, n8, l9, l10, l11, v12, ss13, b14, X15, X16, l17, l18, l19, n20, X21, v22, ss23, v24, l25, b26, hf0_0, hf1_0, hf2_0, hf3_0, hf3_1, hf3_2, hf3_3, hf3_4, hf3_5, hf3_6, hf3_7, hf3_8, hf3_9, hf3_10, hf3_11, hf3_12, hf3_13, hf3_14, hf3_15, hf4_0, hf5_0, hf6_0, hf7_0, ?_⟩
  rw [show cs = cs.drop 0 from rfl]
  rw [cutp (cs := cs) (o := 0) (s := 1) (o' := 1) rfl, e0]
  conv => lhs; rw [cutp (cs := cs) (o := 1) (s := 1) (o' := 2) rfl, e1]
  conv => lhs; rw [cutp (cs := cs) (o := 2) (s := 1) (o' := 3) rfl, e2]
  conv => lhs; rw [cutp (cs := cs) (o := 3) (s := 78) (o' := 81) rfl, e3]
  conv => lhs; rw [cutp (cs := cs) (o := 81) (s := 32) (o' := 113) rfl, e4]
  conv => lhs; rw [cutp (cs := cs) (o := 113) (s := 1) (o' := 114) rfl, e5]
  conv => lhs; rw [cutp (cs := cs) (o := 114) (s := 1) (o' := 115) rfl, e6]
  conv => lhs; rw [cutp (cs := cs) (o := 115) (s := 1) (o' := 116) rfl, e7]
  rw [List.drop_eq_nil_of_le (Nat.le_of_eq hl)]
  rfl
theorem open_custumallaw24_Told {r : Reach} {b0 : Nat} {v : Value} {d : DataW H} {ps : List MemPlace} (hval : Value.okWide Try.prog W r b0 74 v) (hd : DataW.Trod enc Try.prog W base sp held 74 v d ps) : ∃ (n1 : Int) (n2 : Int) (n3 : Int) (n4 : Int) (l5 : List UInt8) (l6 : List UInt8) (b7 : Bool) (n8 : Int) (l9 : List UInt8) (l10 : List UInt8) (l11 : List UInt8) (v12 : Value) (ss13 : List Nat) (b14 : Bool) (X15 : Nat) (X16 : Nat) (l17 : List UInt8) (l18 : List UInt8) (l19 : List UInt8) (n20 : Int) (X21 : Nat) (v22 : Value) (ss23 : List Nat) (v24 : Value) (l25 : List UInt8) (b26 : Bool), (-9223372036854775808 ≤ n1 ∧ n1 < 9223372036854775808) ∧ (-9223372036854775808 ≤ n2 ∧ n2 < 9223372036854775808) ∧ (-9223372036854775808 ≤ n3 ∧ n3 < 9223372036854775808) ∧ (-9223372036854775808 ≤ n4 ∧ n4 < 9223372036854775808) ∧ l5.length ≤ maxLen ∧ l6.length ≤ maxLen ∧ True ∧ (-9223372036854775808 ≤ n8 ∧ n8 < 9223372036854775808) ∧ l9.length ≤ maxLen ∧ l10.length ≤ maxLen ∧ l11.length ≤ maxLen ∧ ((∀ y ∈ ss13, y < 2 ^ 256) ∧ RR 32 W v12 (ss13.map b32l)) ∧ True ∧ X15 < 2 ^ (8 * 32) ∧ X16 < 2 ^ (8 * 32) ∧ l17.length ≤ maxLen ∧ l18.length ≤ maxLen ∧ l19.length ≤ maxLen ∧ (-9223372036854775808 ≤ n20 ∧ n20 < 9223372036854775808) ∧ X21 < 2 ^ (8 * 32) ∧ ((∀ y ∈ ss23, y < 2 ^ 256) ∧ RR 32 W v22 (ss23.map b32l)) ∧ (Sl W v24 l25 ∧ l25.length ≤ maxLen) ∧ True ∧ v = .agg (agF [.c (.int .i64 n1), .c (.int .i64 n2), .c (.int .i64 n3), .c (.int .i64 n4), .c (str l5), .c (str l6), .c (.bool b7), .c (.int .i64 n8), .c (str l9), .c (str l10), .c (str l11), .c v12, .c (.bool b14), .a 32 X15, .a 32 X16, .c (str l17), .c (str l18), .c (str l19), .c (.int .i64 n20), .a 32 X21, .c v22, .c v24, .c (.bool b26)]) := by
  obtain ⟨cs, rfl, _⟩ := okWide_struct Try.underlying74 hval
  obtain ⟨fuel, hf⟩ := hd
  obtain ⟨n1, n2, n3, n4, l5, l6, b7, n8, l9, l10, l11, v12, ss13, b14, X15, X16, l17, l18, l19, n20, X21, v22, ss23, v24, l25, b26, h0, h1, h2, h3, h4, h5, h6, h7, h8, h9, h10, h11, h12, h13, h14, h15, h16, h17, h18, h19, h20, h21, h22, e⟩ := trod_custumallaw24_Told hf
  exact ⟨n1, n2, n3, n4, l5, l6, b7, n8, l9, l10, l11, v12, ss13, b14, X15, X16, l17, l18, l19, n20, X21, v22, ss23, v24, l25, b26, h0, h1, h2, h3, h4, h5, h6, h7, h8, h9, h10, h11, h12, h13, h14, h15, h16, h17, h18, h19, h20, h21, h22, by rw [show cs = agF [.c (.int .i64 n1), .c (.int .i64 n2), .c (.int .i64 n3), .c (.int .i64 n4), .c (str l5), .c (str l6), .c (.bool b7), .c (.int .i64 n8), .c (str l9), .c (str l10), .c (str l11), .c v12, .c (.bool b14), .a 32 X15, .a 32 X16, .c (str l17), .c (str l18), .c (str l19), .c (.int .i64 n20), .a 32 X21, .c v22, .c v24, .c (.bool b26)] from Array.toList_inj.1 e]⟩
end
end Go.Proofs.Ytlbgelbhhibikaa
