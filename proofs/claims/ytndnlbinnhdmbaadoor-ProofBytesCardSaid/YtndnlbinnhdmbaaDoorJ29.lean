/- What the rows of the layers 14 and 15 share: the cells of the tables out of the rows' lists, leaves and sums out of the arguments, a world for the witness. No conditions. Rows of leaves out of the arguments. No conditions. Keys and sums out of the arguments. No conditions. Proofs out of the arguments; what is laid where sha2's tables alone are named. No conditions. -/
import Derived.Test.YtndnlbinnhdmbaaDoorCards
import Derived.Test.YtndnlbinnhdmbaaDoorTie
import Derived.Test.YtndnlbinnhdmbaaDoorJ0
import Derived.Test.YtndnlbinnhdmbaaDoorJ14
import Derived.WalkKit
import Derived.ProofKit
import Derived.OpenShut
import Derived.Deep.Slices
import Derived.Deep.DeepHandedRow
import Derived.Carry
import Derived.Lib.LaidTab
import Derived.Test.YtndnlbinnhdmbaaDoorJ16
import Derived.Test.YtndnlbinnhdmbaaDoorPrA
import Derived.Deep.Strs
set_option linter.unusedSimpArgs false
set_option linter.unusedVariables false
namespace Go.Proofs.YtndnlbinnhdmbaaDoor
set_option maxRecDepth 100000
open Go.ChangeShapes Go.WideShapes Go.ChangeAt Go.RowKit Go.Deep
theorem own : ownKnob Tryd.prog.godebug = none := by kernel_rfl
theorem laidOut : laidOutB Tryd.prog = true := by kernel_rfl
theorem cellsU8 : Tryd.prog.cellsOf 5 = 1 := by kernel_rfl
theorem cellsU32 : Tryd.prog.cellsOf 135 = 1 := by kernel_rfl
theorem cellsA64 : Tryd.prog.cellsOf 142 = 64 := by kernel_rfl
theorem cellsA8 : Tryd.prog.cellsOf 136 = 8 := by kernel_rfl
theorem laidMet_tl {P : Program} {x : String × DataW Unit} {r : List (String × DataW Unit)} {W : World} (h : laidMet P (x :: r) W) : laidMet P r W := by
  obtain ⟨ps, ⟨g, t, cs, fuel, p, q, _, _, _, _, hv, rfl⟩, hn, hc⟩ := h
  exact ⟨q, hv, (List.nodup_append.1 hn).2.1, fun b off hb => hc b off (List.mem_append_right _ hb)⟩
theorem Rd_of_tab {W : World} {name : String} {k : IntKind} {zs : List Int} {g : Nat} (h : Lib.TabIs Tryd.prog W name k zs) (hg : Tryd.prog.globalNamed name = some g) (h0 : 0 < zs.length) : Rd W g (zs.map fun z => Value.int k z).toArray := by
  refine ⟨fun j v hj => ?_, World.block_lt_of_cell? W ⟨g, 0, none⟩ (h.cell hg 0 h0)⟩
  rw [List.getElem?_toArray, List.getElem?_map] at hj
  cases hz : zs[j]? with
  | none => rw [hz] at hj; cases hj
  | some z =>
    rw [hz] at hj
    obtain rfl := Option.some.inj hj
    have hl : j < zs.length := by
      rcases Nat.lt_or_ge j zs.length with h | h
      · exact h
      · rw [List.getElem?_eq_none h] at hz; cases hz
    have := h.cell hg j hl
    rwa [List.getD_eq_getElem?_getD, hz] at this
theorem kk4_arr : (kk4.map fun z => Value.int .u32 z).toArray = arrK .u32 64 kf4 := by kernel_rfl
theorem hh4_arr : (hh4.map fun z => Value.int .u32 z).toArray = arrK .u32 8 hf4 := by kernel_rfl
theorem gSt : Tryd.prog.globalNamed "custumal/sha2.start" = some 2 := by kernel_rfl
theorem gStT : (Tryd.prog.globals[2]?).map (·.type) = some 136 := by kernel_rfl
theorem gRo : Tryd.prog.globalNamed "custumal/sha2.rounds" = some 3 := by kernel_rfl
theorem gRoT : (Tryd.prog.globals[3]?).map (·.type) = some 142 := by kernel_rfl
section
variable {H : Type} {enc : TypeId × Value → H} {W : World} {base : Nat} {sp : Nat → Bool} {held : Bool}
/-- bytes of an array, as cells -/
theorem trod_b32 {t : TypeId} (hn : Tryd.prog.underlying t = some (.array 32 5)) (hc : Tryd.prog.cellsOf t = 32) {fuel : Nat} {cs : List Value} {x : DataW H × List MemPlace} (h : DataW.trod enc Tryd.prog W base sp held fuel t cs = some x) :
    ∃ N : Nat, N < 2 ^ 256 ∧ cs = (arrK .u8 32 (byt N)).toList ∧ x.2 = [] := by
  obtain ⟨xs, m, rfl, rfl, hl, hxl, hx⟩ := DataW.trod_array hn h
  rw [hc] at hl
  have h3 : ∀ i, i < 32 → (∃ a : Int, cs[i]? = some (.int .u8 a) ∧ (Lit.int .u8 a).wf = true) ∧ ∃ y, xs[i]? = some y ∧ y.2 = [] := fun i hi => by
    have h4 := hx i hi
    rw [cellsU8, Nat.mul_one, List.getElem?_eq_getElem (by omega)] at h4
    obtain ⟨a, ea, e2, wa⟩ := DataW.trod_int Tryd.underlying5 h4
    refine ⟨⟨a, ?_, wa⟩, _, List.getElem?_eq_getElem (by omega), by rw [e2]⟩
    have h0 := congrArg (fun l : List Value => l[0]?) ea
    rw [List.getElem?_take_of_lt (by omega), List.getElem?_drop] at h0
    exact h0
  have h2 : xs.flatMap (·.2) = [] := by
    rw [List.flatMap_eq_nil_iff]
    intro y hy
    obtain ⟨i, hi, e⟩ := List.mem_iff_getElem.1 hy
    obtain ⟨_, y', e1, e2⟩ := h3 i (by omega)
    rw [List.getElem?_eq_getElem hi, e] at e1
    rw [Option.some.inj e1]; exact e2
  obtain ⟨f, hf⟩ : ∃ f : Nat → Int, ∀ i, i < 32 → cs[i]? = some (.int .u8 (f i)) ∧ u8ok (f i) :=
    ⟨fun i => if h : i < 32 then Classical.choose (h3 i h).1 else 0, fun i hi => by
      simp only [dif_pos hi]
      obtain ⟨h4, h5⟩ := Classical.choose_spec (h3 i hi).1
      exact ⟨h4, by have := bounds_u8 h5; unfold u8ok; omega⟩⟩
  have hg : ∀ j, u8ok (if j < 32 then f j else 0) := fun j => by
    by_cases h : j < 32
    · rw [if_pos h]; exact (hf j h).2
    · rw [if_neg h]; unfold u8ok; omega
  refine ⟨bval (fun j => if j < 32 then f j else 0) 32, bval_lt _ hg 32, ?_, h2⟩
  apply List.ext_getElem?
  intro i
  by_cases hi : i < 32
  · rw [(hf i hi).1, arrK_list, lstK_get _ _ _ _ hi, byt_bval _ hg 32 i hi, if_pos hi]
  · rw [List.getElem?_eq_none (by omega), List.getElem?_eq_none (by rw [arrK_list, lstK_length]; omega)]
theorem two_of {cs : List Value} {a b : Nat} (hl : cs.length = 64) (h0 : (cs.drop 0).take 32 = (arrK .u8 32 (byt a)).toList) (h1 : (cs.drop 32).take 32 = (arrK .u8 32 (byt b)).toList) : cs = (lf a b).toList := by
  unfold lf
  rw [Array.toList_append, ← h0, ← h1, List.drop_zero, List.take_of_length_le (l := cs.drop 32) (by rw [List.length_drop]; omega), List.take_append_drop]
theorem und32 : Tryd.prog.underlying 22 = some (.array 32 5) := Tryd.underlying22
theorem cells32 : Tryd.prog.cellsOf 22 = 32 := by kernel_rfl
/-- a leaf's cells -/
theorem trod_lf {fuel : Nat} {cs : List Value} {x : DataW H × List MemPlace} (h : DataW.trod enc Tryd.prog W base sp held fuel 24 cs = some x) :
    ∃ k v : Nat, k < 2 ^ 256 ∧ v < 2 ^ 256 ∧ cs = (lf k v).toList ∧ x.2 = [] := by
  obtain ⟨y0, y1, n, rfl, hl, h0, h1⟩ := trod_struct2 Tryd.underlying24 h
  obtain ⟨k, hk, e0, p0⟩ := trod_b32 und32 cells32 h0
  obtain ⟨v, hv, e1, p1⟩ := trod_b32 und32 cells32 h1
  rw [show Tryd.prog.cellsOf 24 = 64 by kernel_rfl] at hl
  exact ⟨k, v, hk, hv, two_of hl (by rw [cells32] at e0; exact e0) (by rw [cells32] at e1; exact e1), by show y0.2 ++ y1.2 = []; rw [p0, p1]; rfl⟩
end
/-- a block's cells put down -/
def putCells (cs : Array Value) : Obj → Obj
  | .cells _ t frozen => .cells cs t frozen
  | o => o
/-- A world for the witness: the settled one, the tables' blocks holding what their initialisers lay. -/
noncomputable def laidWorld (os : Os) : World :=
  { World.holding Tryd.prog os ⟨#[], #[], []⟩ with heap := ((((World.holding Tryd.prog os ⟨#[], #[], []⟩).heap.modify 2 (putCells (arrK .u32 8 hf4))).modify 3 (putCells (arrK .u32 64 kf4))).modify 0 (putCells (arrK .i64 8 hf4))).modify 1 (putCells (arrK .i64 64 kf4)) }
end Go.Proofs.YtndnlbinnhdmbaaDoor

set_option linter.unusedSimpArgs false
set_option linter.unusedVariables false
namespace Go.Proofs.YtndnlbinnhdmbaaDoor
set_option maxRecDepth 100000
open Go.ChangeShapes Go.WideShapes Go.ChangeAt Go.RowKit Go.Deep
theorem spot_none {W : World} {a : Addr} {v : Value} (h : W.cell? a = some v) : a.spot = none := by
  unfold World.cell? at h
  split at h
  · split at h
    · cases h
    · rename_i hs; cases hsp : a.spot with
      | none => rfl
      | some _ => rw [hsp] at hs; exact absurd rfl hs
  · cases h
section
variable {H : Type} {enc : TypeId × Value → H} {W : World} {base : Nat} {sp : Nat → Bool} {held : Bool}
end
end Go.Proofs.YtndnlbinnhdmbaaDoor

set_option linter.unusedSimpArgs false
set_option linter.unusedVariables false
namespace Go.Proofs.YtndnlbinnhdmbaaDoor
set_option maxRecDepth 100000
open Go.ChangeShapes Go.WideShapes Go.ChangeAt Go.RowKit Go.Deep
section
variable {H : Type} {enc : TypeId × Value → H} {W : World} {base : Nat} {sp : Nat → Bool} {held : Bool}
end
end Go.Proofs.YtndnlbinnhdmbaaDoor

set_option linter.unusedSimpArgs false
set_option linter.unusedVariables false
namespace Go.Proofs.YtndnlbinnhdmbaaDoor
set_option maxRecDepth 100000
open Go.ChangeShapes Go.WideShapes Go.ChangeAt Go.RowKit Go.Deep
theorem gt_two {W : World} (h : laidMet Tryd.prog [("custumal/sha2.start", Rows.laid_custumal_sha2_start), ("custumal/sha2.rounds", Rows.laid_custumal_sha2_rounds)] W) : GT False W := by
  have h3 := laidMet_tl h
  have tS : Lib.TabIs Tryd.prog W "custumal/sha2.start" .u32 hh4 := Lib.tabIs_of_head gSt gStT Tryd.underlying136 Tryd.underlying135 cellsU32 cellsA8 h
  have tR : Lib.TabIs Tryd.prog W "custumal/sha2.rounds" .u32 kk4 := Lib.tabIs_of_head gRo gRoT Tryd.underlying142 Tryd.underlying135 cellsU32 cellsA64 h3
  exact ⟨⟨kk4_arr ▸ Rd_of_tab tR gRo (by decide), hh4_arr ▸ Rd_of_tab tS gSt (by decide)⟩, fun h => h.elim⟩
section
variable {H : Type} {enc : TypeId × Value → H} {W : World} {base : Nat} {sp : Nat → Bool} {held : Bool}
/-- sums in a row -/
theorem trod_sums {fuel : Nat} {v : Value} {x : DataW H × List MemPlace} (hf : DataW.trod enc Tryd.prog W base sp held fuel 58 [v] = some x) :
    ∃ ss : List Nat, (∀ y ∈ ss, y < 2 ^ 256) ∧ RR 32 W v (ss.map b32l) := by
  rcases open_slice Tryd.underlying58 hf with ⟨hcs, _⟩ | ⟨a, len, cap, m, n, D, Pl, hcs, _, hl, hm, hmm, _, hi⟩
  · obtain rfl : v = .slice none 0 0 := by simpa using hcs
    exact ⟨[], fun y hy => (by cases hy), rr_nil 32 W⟩
  · obtain rfl : v = .slice (some a) len cap := by simpa using hcs
    have hlm : len ≤ m := by rw [hmm]; split <;> omega
    have hs0 : 0 < len → a.spot = none := fun h => by
      obtain ⟨cs', h1, h2⟩ := hi 0 (by omega)
      rw [cells32] at h1
      obtain ⟨_, hcl, hcell⟩ := World.cells?_some h1
      have h0 := hcell 0 (by decide)
      rw [List.getElem?_eq_getElem (by rw [hcl]; decide)] at h0
      have h4 := spot_none h0
      simpa [Addr.add] using h4
    have key : ∀ i, i < len → ∃ k : Nat, k < 2 ^ 256 ∧ a.spot = none ∧ ∀ (j : Nat) (u : Value), (b32l k)[j]? = some u → W.cell? ⟨a.block, a.off + i * 32 + j, none⟩ = some u := by
      intro i hi'
      obtain ⟨cs', h1, h2⟩ := hi i (by omega)
      rw [cells32] at h1
      obtain ⟨_, hcl, hcell⟩ := World.cells?_some h1
      obtain ⟨k, hk, e, _⟩ := trod_b32 und32 cells32 h2
      rw [e] at hcl hcell
      have hs := hs0 (by omega)
      refine ⟨k, hk, hs, fun j u hj => ?_⟩
      have hj' : j < 32 := by
        have := (List.getElem?_eq_some_iff.1 hj).1
        have e : (b32l k).length = 32 := hcl
        omega
      have h3 := hcell j hj'
      rw [hj] at h3
      have e2 : (a.add (i * 32)).add j = ⟨a.block, a.off + i * 32 + j, none⟩ := by
        clear hcl hcell h1 h3 hi hmm hf
        obtain ⟨ab, ao', asp⟩ := a
        have hs' : asp = none := hs
        subst hs'; rw [Addr.add_mid, Addr.add_mid]
      rw [e2] at h3
      exact h3
    refine ⟨(List.range len).map fun i => if h : i < len then Classical.choose (key i h) else 0, fun y hy => ?_, some a, cap, by simp, by simpa using hl, fun e => (by cases e), fun j e hj => ?_⟩
    · obtain ⟨i, hi, rfl⟩ := List.mem_map.1 hy
      have hil := List.mem_range.1 hi
      rw [dif_pos hil]
      exact (Classical.choose_spec (key i hil)).1
    rw [List.map_map] at hj
    have hil : j < len := by have := (List.getElem?_eq_some_iff.1 hj).1; simpa using this
    rw [List.getElem?_map, List.getElem?_range hil] at hj
    have hj := Option.some.inj hj
    simp only [Function.comp_apply, dif_pos hil] at hj
    subst hj
    obtain ⟨_, h2, h3⟩ := Classical.choose_spec (key j hil)
    refine ⟨a.block, a.off, ?_, h3⟩
    rw [← h2]
theorem three_of {cs : List Value} {s : Value} {th : Bool} {a x : Nat} (hl : cs.length = 66) (h0 : (cs.drop 0).take 1 = [s]) (h1 : (cs.drop 1).take 1 = [.bool th]) (h2 : (cs.drop 2).take 64 = (lf a x).toList) : cs = (pfc s th a x).toList := by
  unfold pfc
  rw [Array.toList_append, ← h2]
  match cs, hl with
  | c0 :: c1 :: r, hl =>
    obtain rfl : c0 = s := by simpa using h0
    obtain rfl : c1 = .bool th := by simpa using h1
    have hr : r.length = 64 := by simpa using hl
    simp [List.take_of_length_le (Nat.le_of_eq hr)]
theorem open_pfb {r : Reach} {b0 : Nat} {v : Value} {d : DataW H} {ps : List MemPlace} (hval : Value.okWide Tryd.prog W r b0 66 v) (hd : DataW.Trod enc Tryd.prog W base sp held 66 v d ps) :
    ∃ (ss : List Nat) (sv : Value) (th : Bool) (a x : Nat), a < 2 ^ 256 ∧ x < 2 ^ 256 ∧ v = .agg (pfc sv th a x) ∧ (∀ y ∈ ss, y < 2 ^ 256) ∧ RR 32 W sv (ss.map b32l) := by
  obtain ⟨cs, rfl, _⟩ := okWide_struct Tryd.underlying66 hval
  obtain ⟨fuel, hf⟩ := hd
  obtain ⟨y0, y1, y2, n, _, hl, h0, h1, h2⟩ := trod_struct3 Tryd.underlying66 hf
  have h0 : DataW.trod enc Tryd.prog W base sp held n 58 ((cs.toList.drop 0).take 1) = some y0 := by
    rw [show (1 : Nat) = Tryd.prog.cellsOf 58 by kernel_rfl]; exact h0
  have h1 : DataW.trod enc Tryd.prog W base sp held n 4 ((cs.toList.drop 1).take 1) = some y1 := by
    rw [show (cs.toList.drop 1).take 1 = (cs.toList.drop 1).take (Tryd.prog.cellsOf 4) by rw [show Tryd.prog.cellsOf 4 = 1 by kernel_rfl]]; exact h1
  have h2 : DataW.trod enc Tryd.prog W base sp held n 24 ((cs.toList.drop 2).take 64) = some y2 := by
    rw [show (64 : Nat) = Tryd.prog.cellsOf 24 by kernel_rfl]; exact h2
  have hl : cs.toList.length = 66 := hl.trans (by kernel_rfl)
  obtain ⟨s, hs⟩ : ∃ s, (cs.toList.drop 0).take 1 = [s] := by
    match hc : cs.toList, hl with
    | c :: r, _ => exact ⟨c, rfl⟩
  rw [hs] at h0
  obtain ⟨ss, hbd, hss⟩ := trod_sums h0
  obtain ⟨th, e1, _⟩ := DataW.trod_bool Tryd.underlying4 h1
  obtain ⟨a, x, ha, hx, e2, _⟩ := trod_lf h2
  exact ⟨ss, s, th, a, x, ha, hx, by rw [show cs = pfc s th a x from Array.toList_inj.1 (three_of hl hs e1 e2)], hbd, hss⟩
theorem sl_of_trod {fuel : Nat} {cs : List Value} {x : DataW H × List MemPlace} (h : DataW.trod enc Tryd.prog W base sp held fuel 33 cs = some x) : ∃ u l, cs = [u] ∧ Sl W u l ∧ l.length ≤ maxLen := by
  rcases open_slice Tryd.underlying33 h with ⟨rfl, _⟩ | ⟨a, len, cap, m, n, D, Pl, rfl, _, hl, hm, hmm, _, hi⟩
  · exact ⟨_, [], rfl, sl_nil W, by simp⟩
  · have hlm : len ≤ m := by rw [hmm]; split <;> omega
    have key : ∀ i, i < len → ∃ c : UInt8, W.cell? (a.add i) = some (.int .u8 (c.toNat : Int)) := by
      intro i hi'
      obtain ⟨cs', h1, h2⟩ := hi i (by omega)
      rw [cellsU8, Nat.mul_one] at h1
      obtain ⟨_, hcl, hcell⟩ := World.cells?_some h1
      obtain ⟨z, hz, _, hw⟩ := DataW.trod_int Tryd.underlying5 h2
      have hb := bounds_u8 hw
      refine ⟨UInt8.ofNat z.toNat, ?_⟩
      have e : ((UInt8.ofNat z.toNat).toNat : Int) = z := by rw [UInt8.toNat_ofNat']; omega
      have := hcell 0 (by omega)
      rw [hz] at this
      rw [e]
      have e0 : ∀ b : Addr, b.add 0 = b := fun b => by unfold Addr.add; simp
      rw [e0] at this
      simpa using this
    refine ⟨_, (List.range len).map fun i => if h : i < len then Classical.choose (key i h) else 0, rfl, ⟨some a, cap, by simp, by simpa using hl, hm, (fun h => by cases h), fun j x hj => ⟨a, rfl, ?_⟩⟩, by simp; omega⟩
    have hjl : j < len := by have := (List.getElem?_eq_some_iff.1 hj).1; simpa using this
    simp [hjl] at hj
    subst hj
    exact Classical.choose_spec (key j hjl)
theorem open_sl {r : Reach} {b0 : Nat} {v : Value} {d : DataW H} {ps : List MemPlace} (hval : Value.okWide Tryd.prog W r b0 33 v) (hd : DataW.Trod enc Tryd.prog W base sp held 33 v d ps) : ∃ l, Sl W v l ∧ l.length ≤ maxLen := by
  obtain ⟨ao, len, cap, rfl⟩ := okWide_slice Tryd.underlying33 hval
  obtain ⟨fuel, hf⟩ := hd
  obtain ⟨u, l, hc, h1, h2⟩ := sl_of_trod hf
  simp [Value.cells] at hc
  subst hc
  exact ⟨l, h1, h2⟩
end
end Go.Proofs.YtndnlbinnhdmbaaDoor
