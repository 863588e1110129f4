/- What the rows of this seat share: the cells of the field's two variables out of the rows' lists, elements out of the arguments, a world for the witness. No conditions. -/
import Derived.Test.YtjikomnnhbbmaaaDoorCards
import Derived.Test.YtjikomnnhbbmaaaDoorTie
import Derived.Test.YtjikomnnhbbmaaaDoorOpenC
import Derived.Test.YtjikomnnhbbmaaaDoorFeH
namespace Go.Proofs.YtjikomnnhbbmaaaDoor
set_option linter.unusedSimpArgs false
set_option linter.unusedVariables false
open Go.ChangeShapes Go.WideShapes Go.ChangeAt Go.RowKit

theorem own : ownKnob Tryd.prog.godebug = none := by kernel_rfl
theorem gMod : Tryd.prog.globalNamed "custumal/field.modulus" = some 0 := by kernel_rfl
theorem gModType : (Tryd.prog.globals[0]?).map (·.type) = some 24 := by kernel_rfl
theorem gIma : Tryd.prog.globalNamed "custumal/field.imaginary" = some 1 := by kernel_rfl
theorem gImaType : (Tryd.prog.globals[1]?).map (·.type) = some 24 := by kernel_rfl
theorem cellsElem : Tryd.prog.cellsOf 24 = 4 := by kernel_rfl
theorem cells44 : Tryd.prog.cellsOf 23 = 4 := by kernel_rfl
theorem cellsU64 : Tryd.prog.cellsOf 22 = 1 := by kernel_rfl
theorem laidOut : laidOutB Tryd.prog = true := by kernel_rfl

theorem laidMet_tl {P : Program} {x : String × DataW Unit} {r : List (String × DataW Unit)} {W : World} (h : laidMet P (x :: r) W) : laidMet P r W := by
  obtain ⟨ps, ⟨g, t, cs, fuel, p, q, _, _, _, _, hv, rfl⟩, hn, hc⟩ := h
  exact ⟨q, hv, (List.nodup_append.1 hn).2.1, fun b off hb => hc b off (List.mem_append_right _ hb)⟩
theorem Rd_of_tab {W : World} {name : String} {zs : List Int} {g : Nat} (h : Lib.TabIs Tryd.prog W name .u64 zs) (hg : Tryd.prog.globalNamed name = some g) (h0 : 0 < zs.length) : Rd W g (zs.map fun z => Value.int .u64 z).toArray := by
  refine ⟨fun j v hj => ?_, World.block_lt_of_cell? W ⟨g, 0, none⟩ (h.cell hg 0 h0)⟩
  rw [List.getElem?_toArray, List.getElem?_map] at hj
  cases hz : zs[j]? with
  | none => rw [hz] at hj; cases hj
  | some z =>
    rw [hz] at hj
    obtain rfl := Option.some.inj hj
    have hl : j < zs.length := by
      rcases Nat.lt_or_ge j zs.length with h | h
      · exact h
      · rw [List.getElem?_eq_none h] at hz; cases hz
    have := h.cell hg j hl
    rwa [List.getD_eq_getElem?_getD, hz] at this
theorem GF_of_laid {W : World} {r : List (String × DataW Unit)} (h : laidMet Tryd.prog (("custumal/field.modulus", Rows.laid_custumal_field_modulus) :: r) W) : GF W := by
  have hT : Lib.TabIs Tryd.prog W "custumal/field.modulus" .u64 [18446744073709551597, 18446744073709551615, 18446744073709551615, 9223372036854775807] :=
    Lib.tabIs_of_head (rest := r) gMod gModType Tryd.underlying24 Tryd.underlying22 cellsU64 cellsElem h
  exact ⟨Rd_of_tab hT gMod (by decide), trivial⟩
theorem GI_of_laid {W : World} {r : List (String × DataW Unit)} (h : laidMet Tryd.prog (("custumal/field.imaginary", Rows.laid_custumal_field_imaginary) :: r) W) : GI W := by
  have hT : Lib.TabIs Tryd.prog W "custumal/field.imaginary" .u64 [14190309331451158704, 3405592160176694392, 3120150775007532967, 3135389899092516619] :=
    Lib.tabIs_of_head (rest := r) gIma gImaType Tryd.underlying24 Tryd.underlying22 cellsU64 cellsElem h
  exact Rd_of_tab hT gIma (by decide)

/-- four words as a number -/
theorem num_of_arr (f : Nat → Int) (hf : ∀ i, i < 4 → (Lit.int .u64 (f i)).wf = true) : ∃ V, V < P256 ∧ Value.agg (arrK .u64 4 f) = L4 V := by
  have hu : ∀ i, i < 4 → u64ok (f i) := fun i hi => by have := bounds_u64 (hf i hi); unfold u64ok; omega
  have h4 : U4 (f 0) (f 1) (f 2) (f 3) := ⟨hu 0 (by decide), hu 1 (by decide), hu 2 (by decide), hu 3 (by decide)⟩
  exact ⟨val4 (f 0) (f 1) (f 2) (f 3), val4_lt _ _ _ _ h4, by rw [← A4_L4 _ _ _ _ h4]; rfl⟩
theorem open_num {H : Type} {enc : TypeId × Value → H} {W W' : World} {base b0 : Nat} {sp : Nat → Bool} {held : Bool} {r : Reach} {v : Value} {d : DataW H} {ps : List MemPlace}
    (hval : Value.okWide Tryd.prog W' r b0 24 v) (hd : DataW.Trod enc Tryd.prog W base sp held 24 v d ps) : ∃ V, V < P256 ∧ v = L4 V ∧ ps = [] := by
  obtain ⟨f, rfl, hf, hp⟩ := open_arrK Tryd.underlying24 Tryd.underlying22 cellsU64 cellsElem hval hd
  obtain ⟨V, hV, e⟩ := num_of_arr f hf
  exact ⟨V, hV, e, hp⟩
theorem open_num4 {H : Type} {enc : TypeId × Value → H} {W W' : World} {base b0 : Nat} {sp : Nat → Bool} {held : Bool} {r : Reach} {v : Value} {d : DataW H} {ps : List MemPlace}
    (hval : Value.okWide Tryd.prog W' r b0 23 v) (hd : DataW.Trod enc Tryd.prog W base sp held 23 v d ps) : ∃ V, V < P256 ∧ v = L4 V ∧ ps = [] := by
  obtain ⟨f, rfl, hf, hp⟩ := open_arrK Tryd.underlying23 Tryd.underlying22 cellsU64 cells44 hval hd
  obtain ⟨V, hV, e⟩ := num_of_arr f hf
  exact ⟨V, hV, e, hp⟩

theorem open_u64 {H : Type} {enc : TypeId × Value → H} {W : World} {base b0 : Nat} {sp : Nat → Bool} {held : Bool} {r : Reach} {v : Value} {d : DataW H} {ps : List MemPlace}
    (hval : Value.okWide Tryd.prog W r b0 22 v) (hd : DataW.Trod enc Tryd.prog W base sp held 22 v d ps) : ∃ V : Nat, v = .int .u64 (V : Int) ∧ V < 18446744073709551616 ∧ ps = [] := by
  obtain ⟨n, rfl, _, hp, hw⟩ := open_int Tryd.underlying22 hval hd
  have hb := bounds_u64 hw
  refine ⟨n.toNat, ?_, by omega, hp⟩
  rw [Int.toNat_of_nonneg hb.1]
/-- an argument without memory reads in any world as before -/
theorem stays {H : Type} {enc : TypeId × Value → H} {t : TypeId} (hr : Tryd.prog.readableRec t = true) (hrow : t < Tryd.prog.types.size) {W W' : World} {sp' : Nat → Bool} {v : Value} {d : DataW H}
    (h : DataW.Trod enc Tryd.prog W 0 (fun _ => true) true t v d []) : DataW.Trod enc Tryd.prog W' 0 sp' true t v d [] :=
  WideElems.Trod_stays laidOut hr hrow h (fun _ hp => by cases hp) (fun _ hp => by cases hp)

/-- a block's cells put down -/
def putCells (cs : Array Value) : Obj → Obj
  | .cells _ t frozen => .cells cs t frozen
  | o => o
/-- A world for the witness: the settled one, the two variables' blocks holding what their initialisers lay. -/
noncomputable def laidWorld (os : Os) : World :=
  { World.holding Tryd.prog os ⟨#[], #[], []⟩ with heap := ((World.holding Tryd.prog os ⟨#[], #[], []⟩).heap.modify 0 (putCells modC)).modify 1 (putCells imaC) }
end Go.Proofs.YtjikomnnhbbmaaaDoor
