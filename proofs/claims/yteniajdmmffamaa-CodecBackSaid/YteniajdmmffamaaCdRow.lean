/- What the rows of this seat share: parts out of the arguments, a world for the witness. No conditions. -/
import Derived.Test.YteniajdmmffamaaRows
import Derived.Test.YteniajdmmffamaaCdG
import Derived.ProofKit
import Derived.OpenShut
import Derived.Deep.Slices
import Derived.Deep.DeepHandedRow
import Derived.Carry
namespace Go.Proofs.Yteniajdmmffamaa
set_option linter.unusedSimpArgs false
set_option linter.unusedVariables false
open Go.ChangeShapes Go.WideShapes Go.ChangeAt Go.RowKit Go.Deep

theorem own : ownKnob Try.prog.godebug = none := by kernel_rfl
theorem laidOut : laidOutB Try.prog = true := by kernel_rfl
theorem cellsU8 : Try.prog.cellsOf 5 = 1 := by kernel_rfl
theorem cells32 : Try.prog.cellsOf 32 = 32 := by kernel_rfl
theorem cellsPart : Try.prog.cellsOf 34 = 35 := by kernel_rfl
theorem cellsInt : Try.prog.cellsOf 3 = 1 := by kernel_rfl
theorem cellsStr : Try.prog.cellsOf 9 = 1 := by kernel_rfl
section
variable {H : Type} {enc : TypeId × Value → H} {W : World} {base : Nat} {sp : Nat → Bool} {held : Bool}
/-- an argument without memory reads in any world as before -/
theorem stays {t : TypeId} (hr : Try.prog.readableRec t = true) (hrow : t < Try.prog.types.size) {W W' : World} {sp' : Nat → Bool} {v : Value} {d : DataW H}
    (h : DataW.Trod enc Try.prog W 0 (fun _ => true) true t v d []) : DataW.Trod enc Try.prog W' 0 sp' true t v d [] :=
  WideElems.Trod_stays laidOut hr hrow h (fun _ hp => by cases hp) (fun _ hp => by cases hp)
theorem open_i {r : Reach} {b0 : Nat} {v : Value} {d : DataW H} {ps : List MemPlace} (hval : Value.okWide Try.prog W r b0 3 v) (hd : DataW.Trod enc Try.prog W base sp held 3 v d ps) : ∃ n : Int, v = .int .i64 n ∧ ps = [] ∧ (Lit.int .i64 n).wf = true := by
  obtain ⟨n, h1, _, hp, hw⟩ := open_int Try.underlying3 hval hd
  exact ⟨n, h1, hp, hw⟩
theorem open_b {r : Reach} {b0 : Nat} {v : Value} {d : DataW H} {ps : List MemPlace} (hval : Value.okWide Try.prog W r b0 5 v) (hd : DataW.Trod enc Try.prog W base sp held 5 v d ps) : ∃ c : UInt8, v = .int .u8 (c.toNat : Int) ∧ ps = [] := by
  obtain ⟨n, h1, _, hp, hw⟩ := open_int Try.underlying5 hval hd
  have hb := bounds_u8 hw
  refine ⟨UInt8.ofNat n.toNat, ?_, hp⟩
  have e : ((UInt8.ofNat n.toNat).toNat : Int) = n := by rw [UInt8.toNat_ofNat']; omega
  rw [h1, e]
theorem trod_bytes {fuel : Nat} {t e : TypeId} {n : Nat} {cs : List Value} {x : DataW H × List MemPlace} (ht : Try.prog.underlying t = some (.array n e)) (he : Try.prog.underlying e = some (.int .u8)) (hc : Try.prog.cellsOf e = 1) (hct : Try.prog.cellsOf t = n)
    (h : DataW.trod enc Try.prog W base sp held fuel t cs = some x) : ∃ S : List UInt8, cs = bs8 S ∧ S.length = n := by
  obtain ⟨xs, m, _, _, hl, hxl, hg⟩ := DataW.trod_array ht h
  rw [hct] at hl
  have key : ∀ i, i < n → ∃ c : UInt8, cs[i]? = some (.int .u8 (c.toNat : Int)) := by
    intro i hi
    have h1 := hg i hi
    rw [hc, Nat.mul_one, List.getElem?_eq_getElem (by omega)] at h1
    obtain ⟨z, hz, _, hw⟩ := DataW.trod_int he h1
    have hb := bounds_u8 hw
    have h0 := congrArg (fun l : List Value => l[0]?) hz
    rw [List.getElem?_take_of_lt (by omega), List.getElem?_drop] at h0
    refine ⟨UInt8.ofNat z.toNat, ?_⟩
    have e : ((UInt8.ofNat z.toNat).toNat : Int) = z := by
      rw [UInt8.toNat_ofNat']; omega
    rw [e]
    simpa using h0
  refine ⟨(List.range n).map fun i => if h : i < n then Classical.choose (key i h) else 0, ?_, by simp⟩
  apply List.ext_getElem?
  intro i
  by_cases hi : i < n
  · have := Classical.choose_spec (key i hi)
    rw [this]
    simp [bs8, hi]
  · rw [List.getElem?_eq_none (by omega), List.getElem?_eq_none (by simp [bs8]; omega)]
theorem part_of_trod {fuel : Nat} {cs : List Value} {x : DataW H × List MemPlace} (h : DataW.trod enc Try.prog W base sp held fuel 34 cs = some x) : ∃ q : Pt, cs = (partC q.K q.N q.S q.T).toList := by
  obtain ⟨xs, n, _, _, hl, hxl, hg⟩ := DataW.trod_struct Try.underlying34 h
  rw [cellsPart] at hl
  have g0 := hg 0 _ rfl
  have g1 := hg 1 _ rfl
  have g2 := hg 2 _ rfl
  have g3 := hg 3 _ rfl
  have hxs : xs.length = 4 := hxl
  change DataW.trod enc Try.prog W base sp held n 3 ((cs.drop 0).take (Try.prog.cellsOf 3)) = _ at g0
  change DataW.trod enc Try.prog W base sp held n 3 ((cs.drop 1).take (Try.prog.cellsOf 3)) = _ at g1
  change DataW.trod enc Try.prog W base sp held n 32 ((cs.drop 2).take (Try.prog.cellsOf 32)) = _ at g2
  change DataW.trod enc Try.prog W base sp held n 9 ((cs.drop 34).take (Try.prog.cellsOf 9)) = _ at g3
  rw [cellsInt] at g0 g1
  rw [cells32] at g2
  rw [cellsStr] at g3
  rw [List.getElem?_eq_getElem (by omega)] at g0 g1 g2 g3
  obtain ⟨K, hK, _, _⟩ := DataW.trod_int Try.underlying3 g0
  obtain ⟨N, hN, _, hNw⟩ := DataW.trod_int Try.underlying3 g1
  obtain ⟨S, hS, hSl⟩ := trod_bytes Try.underlying32 Try.underlying5 cellsU8 cells32 g2
  obtain ⟨s, hs, _, _⟩ := DataW.trod_string Try.underlying9 g3
  match cs, hl with
  | c0 :: c1 :: r, hl =>
    have hr : r.length = 33 := by simpa using hl
    have e0 : c0 = .int .i64 K := by simpa using hK
    have e1 : c1 = .int .i64 N := by simpa using hN
    have e2 : r.take 32 = bs8 S := hS
    have e3 : (r.drop 32).take 1 = [.string s] := hs
    have e4 : r.drop 32 = [.string s] := by rw [← e3, List.take_of_length_le (by rw [List.length_drop]; omega)]
    refine ⟨⟨K, N, S, s.data.toList, hSl, bounds_i64 hNw⟩, ?_⟩
    have : r = bs8 S ++ [.string s] := by rw [← e2, ← e4, List.take_append_drop]
    rw [e0, e1, this]
    rfl
theorem open_pts {r : Reach} {b0 : Nat} {v : Value} {d : DataW H} {ps : List MemPlace} (hval : Value.okWide Try.prog W r b0 22 v) (hd : DataW.Trod enc Try.prog W base sp held 22 v d ps) : ∃ qs, Pts W v qs := by
  obtain ⟨ao, len, cap, rfl⟩ := okWide_slice Try.underlying22 hval
  obtain ⟨fuel, hf⟩ := hd
  rcases open_slice Try.underlying22 hf with ⟨hcs, _⟩ | ⟨a, len', cap', m, n, D, Pl, hcs, _, hl, hm, hmm, _, hi⟩
  · simp [Value.cells] at hcs
    obtain ⟨rfl, rfl, rfl⟩ := hcs
    exact ⟨[], none, 0, rfl, fun i q h => by simp at h⟩
  · simp [Value.cells] at hcs
    obtain ⟨rfl, rfl, rfl⟩ := hcs
    have hlm : len ≤ m := by rw [hmm]; split <;> omega
    have key : ∀ i, i < len → ∃ q : Pt, ∀ j x, (partC q.K q.N q.S q.T)[j]? = some x → W.cell? (a.add (i * 35 + j)) = some x := by
      intro i hi'
      obtain ⟨cs', h1, h2⟩ := hi i (by omega)
      rw [cellsPart] at h1
      obtain ⟨_, hcl, hcell⟩ := World.cells?_some h1
      obtain ⟨q, hq⟩ := part_of_trod h2
      refine ⟨q, fun j x hj => ?_⟩
      have hjl : j < 35 := by
        have := (Array.getElem?_eq_some_iff.1 hj).1
        rw [partC_size q.hS] at this
        exact this
      have := hcell j hjl
      rw [addr_add_add, hq] at this
      rw [this]
      simpa using hj
    refine ⟨(List.range len).map fun i => if h : i < len then Classical.choose (key i h) else ⟨0, 0, List.replicate 32 0, [], List.length_replicate, by decide⟩, some a, cap, by simp, fun i q hq => ⟨a, rfl, ?_⟩⟩
    have hil : i < len := by have := (List.getElem?_eq_some_iff.1 hq).1; simpa using this
    simp [hil] at hq
    subst hq
    exact Classical.choose_spec (key i hil)
end
/-- A world for the witness. -/
noncomputable def setWorld (os : Os) : World := World.holding Try.prog os ⟨#[], #[], []⟩
end Go.Proofs.Yteniajdmmffamaa
