/- What the rows of layer 7 share: the cells of the variables out of the rows' lists, bytes out of the arguments, a world for the witness. No conditions. -/
import Derived.Test.YtghajiagbfcmdaaDoorCards
import Derived.Test.YtghajiagbfcmdaaDoorTie
import Derived.Test.YtghajiagbfcmdaaDoorOpenC
import Derived.Test.YtghajiagbfcmdaaDoorPu
namespace Go.Proofs.YtghajiagbfcmdaaDoor
set_option linter.unusedSimpArgs false
set_option linter.unusedVariables false
open Go.ChangeShapes Go.WideShapes Go.ChangeAt Go.RowKit

theorem own : ownKnob Tryd.prog.godebug = none := by kernel_rfl
theorem cellsElem : Tryd.prog.cellsOf 26 = 4 := by kernel_rfl
theorem cellsU64 : Tryd.prog.cellsOf 24 = 1 := by kernel_rfl
theorem laidOut : laidOutB Tryd.prog = true := by kernel_rfl
theorem laidMet_tl {P : Program} {x : String × DataW Unit} {r : List (String × DataW Unit)} {W : World} (h : laidMet P (x :: r) W) : laidMet P r W := by
  obtain ⟨ps, ⟨g, t, cs, fuel, p, q, _, _, _, _, hv, rfl⟩, hn, hc⟩ := h
  exact ⟨q, hv, (List.nodup_append.1 hn).2.1, fun b off hb => hc b off (List.mem_append_right _ hb)⟩
theorem Rd_of_tab {W : World} {name : String} {zs : List Int} {g : Nat} (h : Lib.TabIs Tryd.prog W name .u64 zs) (hg : Tryd.prog.globalNamed name = some g) (h0 : 0 < zs.length) : Rd W g (zs.map fun z => Value.int .u64 z).toArray := by
  refine ⟨fun j v hj => ?_, World.block_lt_of_cell? W ⟨g, 0, none⟩ (h.cell hg 0 h0)⟩
  rw [List.getElem?_toArray, List.getElem?_map] at hj
  cases hz : zs[j]? with
  | none => rw [hz] at hj; cases hj
  | some z =>
    rw [hz] at hj
    obtain rfl := Option.some.inj hj
    have hl : j < zs.length := by
      rcases Nat.lt_or_ge j zs.length with h | h
      · exact h
      · rw [List.getElem?_eq_none h] at hz; cases hz
    have := h.cell hg j hl
    rwa [List.getD_eq_getElem?_getD, hz] at this
theorem gMod : Tryd.prog.globalNamed "custumal/field.modulus" = some 4 := by kernel_rfl
theorem gModType : (Tryd.prog.globals[4]?).map (·.type) = some 26 := by kernel_rfl
theorem rdMod {W : World} {r : List (String × DataW Unit)} (h : laidMet Tryd.prog (("custumal/field.modulus", Rows.laid_custumal_field_modulus) :: r) W) : Rd W 4 modC := by
  have hT : Lib.TabIs Tryd.prog W "custumal/field.modulus" .u64 [18446744073709551597, 18446744073709551615, 18446744073709551615, 9223372036854775807] :=
    Lib.tabIs_of_head (rest := r) gMod gModType Tryd.underlying26 Tryd.underlying24 cellsU64 cellsElem h
  exact Rd_of_tab hT gMod (by decide)
theorem gIma : Tryd.prog.globalNamed "custumal/field.imaginary" = some 5 := by kernel_rfl
theorem gImaType : (Tryd.prog.globals[5]?).map (·.type) = some 26 := by kernel_rfl
theorem rdIma {W : World} {r : List (String × DataW Unit)} (h : laidMet Tryd.prog (("custumal/field.imaginary", Rows.laid_custumal_field_imaginary) :: r) W) : Rd W 5 imaC := by
  have hT : Lib.TabIs Tryd.prog W "custumal/field.imaginary" .u64 [14190309331451158704, 3405592160176694392, 3120150775007532967, 3135389899092516619] :=
    Lib.tabIs_of_head (rest := r) gIma gImaType Tryd.underlying26 Tryd.underlying24 cellsU64 cellsElem h
  exact Rd_of_tab hT gIma (by decide)
theorem gCur : Tryd.prog.globalNamed "custumal/edwards.curve" = some 3 := by kernel_rfl
theorem gCurType : (Tryd.prog.globals[3]?).map (·.type) = some 26 := by kernel_rfl
theorem rdCur {W : World} {r : List (String × DataW Unit)} (h : laidMet Tryd.prog (("custumal/edwards.curve", Rows.laid_custumal_edwards_curve) :: r) W) : Rd W 3 (c4 DD) := by
  have hT : Lib.TabIs Tryd.prog W "custumal/edwards.curve" .u64 [8496970652267935907, 31536524315187371, 10144147576115030168, 5909686906226998899] :=
    Lib.tabIs_of_head (rest := r) gCur gCurType Tryd.underlying26 Tryd.underlying24 cellsU64 cellsElem h
  exact Rd_of_tab hT gCur (by decide)
theorem gDbl : Tryd.prog.globalNamed "custumal/edwards.double" = some 2 := by kernel_rfl
theorem gDblType : (Tryd.prog.globals[2]?).map (·.type) = some 26 := by kernel_rfl
theorem rdDbl {W : World} {r : List (String × DataW Unit)} (h : laidMet Tryd.prog (("custumal/edwards.double", Rows.laid_custumal_edwards_double) :: r) W) : Rd W 2 (c4 D2) := by
  have hT : Lib.TabIs Tryd.prog W "custumal/edwards.double" .u64 [16993941304535871833, 63073048630374742, 1841551078520508720, 2596001775599221991] :=
    Lib.tabIs_of_head (rest := r) gDbl gDblType Tryd.underlying26 Tryd.underlying24 cellsU64 cellsElem h
  exact Rd_of_tab hT gDbl (by decide)
theorem gBsX : Tryd.prog.globalNamed "custumal/edwards.baseX" = some 0 := by kernel_rfl
theorem gBsXType : (Tryd.prog.globals[0]?).map (·.type) = some 26 := by kernel_rfl
theorem rdBsX {W : World} {r : List (String × DataW Unit)} (h : laidMet Tryd.prog (("custumal/edwards.baseX", Rows.laid_custumal_edwards_baseX) :: r) W) : Rd W 0 (c4 BX) := by
  have hT : Lib.TabIs Tryd.prog W "custumal/edwards.baseX" .u64 [14507833142362363162, 7578651490590762930, 13881468655802702940, 2407515759118799870] :=
    Lib.tabIs_of_head (rest := r) gBsX gBsXType Tryd.underlying26 Tryd.underlying24 cellsU64 cellsElem h
  exact Rd_of_tab hT gBsX (by decide)
theorem gBsY : Tryd.prog.globalNamed "custumal/edwards.baseY" = some 1 := by kernel_rfl
theorem gBsYType : (Tryd.prog.globals[1]?).map (·.type) = some 26 := by kernel_rfl
theorem rdBsY {W : World} {r : List (String × DataW Unit)} (h : laidMet Tryd.prog (("custumal/edwards.baseY", Rows.laid_custumal_edwards_baseY) :: r) W) : Rd W 1 (c4 BY) := by
  have hT : Lib.TabIs Tryd.prog W "custumal/edwards.baseY" .u64 [7378697629483820632, 7378697629483820646, 7378697629483820646, 7378697629483820646] :=
    Lib.tabIs_of_head (rest := r) gBsY gBsYType Tryd.underlying26 Tryd.underlying24 cellsU64 cellsElem h
  exact Rd_of_tab hT gBsY (by decide)
theorem ge_all {W : World} (h : laidMet Tryd.prog [("custumal/field.modulus", Rows.laid_custumal_field_modulus), ("custumal/field.imaginary", Rows.laid_custumal_field_imaginary), ("custumal/edwards.curve", Rows.laid_custumal_edwards_curve), ("custumal/edwards.double", Rows.laid_custumal_edwards_double), ("custumal/edwards.baseX", Rows.laid_custumal_edwards_baseX), ("custumal/edwards.baseY", Rows.laid_custumal_edwards_baseY)] W) : GE ⟨True, True, True⟩ W :=
  ⟨⟨(rdMod (h)), trivial⟩, fun _ => (rdIma (laidMet_tl (h))), fun _ => (rdCur (laidMet_tl (laidMet_tl (h)))), fun _ => (rdDbl (laidMet_tl (laidMet_tl (laidMet_tl (h))))), fun _ => (rdBsX (laidMet_tl (laidMet_tl (laidMet_tl (laidMet_tl (h)))))), fun _ => (rdBsY (laidMet_tl (laidMet_tl (laidMet_tl (laidMet_tl (laidMet_tl (h)))))))⟩
theorem ge_laws {W : World} (h : laidMet Tryd.prog [("custumal/field.modulus", Rows.laid_custumal_field_modulus), ("custumal/edwards.double", Rows.laid_custumal_edwards_double), ("custumal/edwards.baseX", Rows.laid_custumal_edwards_baseX), ("custumal/edwards.baseY", Rows.laid_custumal_edwards_baseY)] W) : GE ⟨True, True, False⟩ W :=
  ⟨⟨(rdMod (h)), trivial⟩, fun h => h.elim, fun h => h.elim, fun _ => (rdDbl (laidMet_tl (h))), fun _ => (rdBsX (laidMet_tl (laidMet_tl (h)))), fun _ => (rdBsY (laidMet_tl (laidMet_tl (laidMet_tl (h)))))⟩
theorem ge_decs {W : World} (h : laidMet Tryd.prog [("custumal/field.modulus", Rows.laid_custumal_field_modulus), ("custumal/field.imaginary", Rows.laid_custumal_field_imaginary), ("custumal/edwards.curve", Rows.laid_custumal_edwards_curve), ("custumal/edwards.baseX", Rows.laid_custumal_edwards_baseX), ("custumal/edwards.baseY", Rows.laid_custumal_edwards_baseY)] W) : GE ⟨False, True, True⟩ W :=
  ⟨⟨(rdMod (h)), trivial⟩, fun _ => (rdIma (laidMet_tl (h))), fun _ => (rdCur (laidMet_tl (laidMet_tl (h)))), fun h => h.elim, fun _ => (rdBsX (laidMet_tl (laidMet_tl (laidMet_tl (h))))), fun _ => (rdBsY (laidMet_tl (laidMet_tl (laidMet_tl (laidMet_tl (h))))))⟩
/-- 32 bytes out of an argument -/
theorem open_b32 {H : Type} {enc : TypeId × Value → H} {W W' : World} {base b0 : Nat} {sp : Nat → Bool} {held : Bool} {r : Reach} {v : Value} {d : DataW H} {ps : List MemPlace}
    (hval : Value.okWide Tryd.prog W' r b0 22 v) (hd : DataW.Trod enc Tryd.prog W base sp held 22 v d ps) : ∃ N : Nat, N < 2 ^ 256 ∧ v = .agg (arrK .u8 32 (byt N)) ∧ ps = [] := by
  obtain ⟨f, rfl, hf, hp⟩ := open_bytes Tryd.underlying22 Tryd.underlying5 (by kernel_rfl) (by kernel_rfl) hval hd
  exact ⟨bval f 32, bval_lt f hf 32, by rw [arrK_ext .u8 32 f _ (fun i hi => (byt_bval f hf 32 i hi).symm)], hp⟩
theorem open_u8 {H : Type} {enc : TypeId × Value → H} {W : World} {base b0 : Nat} {sp : Nat → Bool} {held : Bool} {r : Reach} {v : Value} {d : DataW H} {ps : List MemPlace}
    (hval : Value.okWide Tryd.prog W r b0 5 v) (hd : DataW.Trod enc Tryd.prog W base sp held 5 v d ps) : ∃ V : Nat, v = .int .u8 (V : Int) ∧ V < 256 ∧ ps = [] := by
  obtain ⟨n, rfl, _, hp, hw⟩ := open_int Tryd.underlying5 hval hd
  have hb := bounds_u8 hw
  refine ⟨n.toNat, ?_, by omega, hp⟩
  rw [Int.toNat_of_nonneg hb.1]
/-- an argument without memory reads in any world as before -/
theorem stays {H : Type} {enc : TypeId × Value → H} {t : TypeId} (hr : Tryd.prog.readableRec t = true) (hrow : t < Tryd.prog.types.size) {W W' : World} {sp' : Nat → Bool} {v : Value} {d : DataW H}
    (h : DataW.Trod enc Tryd.prog W 0 (fun _ => true) true t v d []) : DataW.Trod enc Tryd.prog W' 0 sp' true t v d [] :=
  WideElems.Trod_stays laidOut hr hrow h (fun _ hp => by cases hp) (fun _ hp => by cases hp)
/-- a block's cells put down -/
def putCells (cs : Array Value) : Obj → Obj
  | .cells _ t frozen => .cells cs t frozen
  | o => o
/-- A world for the witness: the settled one, the variables' blocks holding what their initialisers lay. -/
noncomputable def laidWorld (os : Os) : World :=
  { World.holding Tryd.prog os ⟨#[], #[], []⟩ with heap := (((((((World.holding Tryd.prog os ⟨#[], #[], []⟩).heap.modify 4 (putCells modC)).modify 5 (putCells imaC)).modify 3 (putCells (c4 DD))).modify 2 (putCells (c4 D2))).modify 0 (putCells (c4 BX))).modify 1 (putCells (c4 BY))) }
end Go.Proofs.YtghajiagbfcmdaaDoor
