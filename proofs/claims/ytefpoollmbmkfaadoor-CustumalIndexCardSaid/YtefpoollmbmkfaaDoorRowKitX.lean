/- What the rows of the tops through layers 8 and 9 share: the cells of the variables, sha2's tables among them. No conditions. -/
import Derived.Test.YtefpoollmbmkfaaDoorJ28
import Derived.Test.YtefpoollmbmkfaaDoorZSqI
set_option linter.unusedSimpArgs false
set_option linter.unusedVariables false
namespace Go.Proofs.YtefpoollmbmkfaaDoor
set_option maxRecDepth 100000
open Go.ChangeShapes Go.WideShapes Go.ChangeAt Go.RowKit Go.Deep
theorem cellsU32 : Tryd.prog.cellsOf 148 = 1 := by kernel_rfl
theorem cellsA64 : Tryd.prog.cellsOf 153 = 64 := by kernel_rfl
theorem cellsA8 : Tryd.prog.cellsOf 149 = 8 := by kernel_rfl
theorem kk4_arr : (H2.kk4.map fun z => Value.int .u32 z).toArray = arrK .u32 64 H2.kf4 := by kernel_rfl
theorem hh4_arr : (H2.hh4.map fun z => Value.int .u32 z).toArray = arrK .u32 8 H2.hf4 := by kernel_rfl
theorem g2St : Tryd.prog.globalNamed "custumal/sha2.start" = some 11 := by kernel_rfl
theorem g2StT : (Tryd.prog.globals[11]?).map (·.type) = some 149 := by kernel_rfl
theorem g2Ro : Tryd.prog.globalNamed "custumal/sha2.rounds" = some 12 := by kernel_rfl
theorem g2RoT : (Tryd.prog.globals[12]?).map (·.type) = some 153 := by kernel_rfl
theorem Rd_of_tabk {W : World} {name : String} {k : IntKind} {zs : List Int} {g : Nat} (h : Lib.TabIs Tryd.prog W name k zs) (hg : Tryd.prog.globalNamed name = some g) (h0 : 0 < zs.length) : Rd W g (zs.map fun z => Value.int k z).toArray := by
  refine ⟨fun j v hj => ?_, World.block_lt_of_cell? W ⟨g, 0, none⟩ (h.cell hg 0 h0)⟩
  rw [List.getElem?_toArray, List.getElem?_map] at hj
  cases hz : zs[j]? with
  | none => rw [hz] at hj; cases hj
  | some z =>
    rw [hz] at hj
    obtain rfl := Option.some.inj hj
    have hl : j < zs.length := by
      rcases Nat.lt_or_ge j zs.length with h | h
      · exact h
      · rw [List.getElem?_eq_none h] at hz; cases hz
    have := h.cell hg j hl
    rwa [List.getD_eq_getElem?_getD, hz] at this
theorem ga_top {W : World} (h : laidMet Tryd.prog [("custumal/field.modulus", Rows.laid_custumal_field_modulus), ("custumal/field.imaginary", Rows.laid_custumal_field_imaginary), ("custumal/edwards.curve", Rows.laid_custumal_edwards_curve), ("custumal/edwards.double", Rows.laid_custumal_edwards_double), ("custumal/edwards.baseX", Rows.laid_custumal_edwards_baseX), ("custumal/edwards.baseY", Rows.laid_custumal_edwards_baseY), ("custumal/scalar.order", Rows.laid_custumal_scalar_order), ("custumal/sha2.start", Rows.laid_custumal_sha2_start), ("custumal/sha2.rounds", Rows.laid_custumal_sha2_rounds), ("custumal/sha5.start", Rows.laid_custumal_sha5_start), ("custumal/sha5.rounds", Rows.laid_custumal_sha5_rounds)] W) : GA ⟨True, True, True, False⟩ W ∧ H2.GS4 W := by
  have h1 := laidMet_tl h
  have h2 := laidMet_tl h1
  have h3 := laidMet_tl h2
  have h4 := laidMet_tl h3
  have h5 := laidMet_tl h4
  have h6 := laidMet_tl h5
  have h7 := laidMet_tl h6
  have h8 := laidMet_tl h7
  have h9 := laidMet_tl h8
  have h10 := laidMet_tl h9
  have tS : Lib.TabIs Tryd.prog W "custumal/sha2.start" .u32 H2.hh4 := Lib.tabIs_of_head g2St g2StT Tryd.underlying149 Tryd.underlying148 cellsU32 cellsA8 h7
  have tR : Lib.TabIs Tryd.prog W "custumal/sha2.rounds" .u32 H2.kk4 := Lib.tabIs_of_head g2Ro g2RoT Tryd.underlying153 Tryd.underlying148 cellsU32 cellsA64 h8
  exact ⟨⟨⟨⟨rdMod h, trivial⟩, fun _ => rdIma h1, fun _ => rdCur h2, fun _ => rdDbl h3, fun _ => rdBsX h4, fun _ => rdBsY h5⟩, ⟨rdRo h10, rdSt h9⟩, rdOrd h6, fun h => h.elim⟩, kk4_arr ▸ Rd_of_tabk tR g2Ro (by decide), hh4_arr ▸ Rd_of_tabk tS g2St (by decide)⟩
/-- A world for the witness, sha2's tables laid too. -/
noncomputable def laidWorld2 (os : Os) : World := { laidWorld os with heap := ((laidWorld os).heap.modify 11 (putCells (arrK .u32 8 H2.hf4))).modify 12 (putCells (arrK .u32 64 H2.kf4)) }
end Go.Proofs.YtefpoollmbmkfaaDoor
