/- What the rows of this seat share: the order's cells out of the row's list, numbers out of the arguments, a world for the witness. No conditions. -/
import Derived.Test.YtgmdpiaenfogcaaDoorCards
import Derived.Test.YtgmdpiaenfogcaaDoorTie
import Derived.Test.YtgmdpiaenfogcaaDoorOpen
import Derived.Test.YtgmdpiaenfogcaaDoorLwB
namespace Go.Proofs.YtgmdpiaenfogcaaDoor
open Go.ChangeShapes Go.WideShapes Go.ChangeAt Go.RowKit

theorem own : ownKnob Tryd.prog.godebug = none := by kernel_rfl
theorem gOrd : Tryd.prog.globalNamed "custumal/scalar.order" = some 0 := by kernel_rfl
theorem gOrdType : (Tryd.prog.globals[0]?).map (·.type) = some 27 := by kernel_rfl
theorem cellsNum : Tryd.prog.cellsOf 27 = 4 := by kernel_rfl
theorem cellsU64 : Tryd.prog.cellsOf 25 = 1 := by kernel_rfl
theorem laidOut : laidOutB Tryd.prog = true := by kernel_rfl

theorem GL_of_laid {W : World} (h : laidMetH Tryd.prog Rows.scalarOfRow.laid W) : GL W := by
  have hT : Lib.TabIs Tryd.prog W "custumal/scalar.order" .u64 [6346243789798364141, 1503914060200516822, 0, 1152921504606846976] :=
    Lib.tabIs_of_head (rest := []) gOrd gOrdType Tryd.underlying27 Tryd.underlying25 cellsU64 cellsNum h
  have h0 := hT.cell gOrd 0 (by decide)
  exact ⟨h0, hT.cell gOrd 1 (by decide), hT.cell gOrd 2 (by decide), hT.cell gOrd 3 (by decide), World.block_lt_of_cell? W _ h0⟩

/-- four words as a number -/
theorem num_of_arr (f : Nat → Int) (hf : ∀ i, i < 4 → (Lit.int .u64 (f i)).wf = true) : ∃ V, V < P256 ∧ Value.agg (arrK .u64 4 f) = L4 V := by
  have hu : ∀ i, i < 4 → u64ok (f i) := fun i hi => by have := bounds_u64 (hf i hi); unfold u64ok; omega
  have h4 : U4 (f 0) (f 1) (f 2) (f 3) := ⟨hu 0 (by decide), hu 1 (by decide), hu 2 (by decide), hu 3 (by decide)⟩
  exact ⟨val4 (f 0) (f 1) (f 2) (f 3), val4_lt _ _ _ _ h4, by rw [← A4_L4 _ _ _ _ h4]; rfl⟩

theorem open_num {H : Type} {enc : TypeId × Value → H} {W W' : World} {base b0 : Nat} {sp : Nat → Bool} {held : Bool} {r : Reach} {v : Value} {d : DataW H} {ps : List MemPlace}
    (hval : Value.okWide Tryd.prog W' r b0 27 v) (hd : DataW.Trod enc Tryd.prog W base sp held 27 v d ps) : ∃ V, V < P256 ∧ v = L4 V ∧ ps = [] := by
  obtain ⟨f, rfl, hf, hp⟩ := open_arrK Tryd.underlying27 Tryd.underlying25 cellsU64 cellsNum hval hd
  obtain ⟨V, hV, e⟩ := num_of_arr f hf
  exact ⟨V, hV, e, hp⟩

/-- an argument without memory reads in any world as before -/
theorem stays {H : Type} {enc : TypeId × Value → H} {t : TypeId} (hr : Tryd.prog.readableRec t = true) (hrow : t < Tryd.prog.types.size) {W W' : World} {sp' : Nat → Bool} {v : Value} {d : DataW H}
    (h : DataW.Trod enc Tryd.prog W 0 (fun _ => true) true t v d []) : DataW.Trod enc Tryd.prog W' 0 sp' true t v d [] :=
  WideElems.Trod_stays laidOut hr hrow h (fun _ hp => by cases hp) (fun _ hp => by cases hp)

/-- A world for the witness: the settled one, the order's block holding what its initialiser lays. -/
noncomputable def laidWorld (os : Os) : World :=
  { World.holding Tryd.prog os ⟨#[], #[], []⟩ with heap := (World.holding Tryd.prog os ⟨#[], #[], []⟩).heap.modify 0 fun
      | .cells _ t frozen => .cells #[.int .u64 6346243789798364141, .int .u64 1503914060200516822, .int .u64 0, .int .u64 1152921504606846976] t frozen
      | o => o }
end Go.Proofs.YtgmdpiaenfogcaaDoor
