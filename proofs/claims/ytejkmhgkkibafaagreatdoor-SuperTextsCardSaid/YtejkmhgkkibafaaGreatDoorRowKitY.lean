/- What the rows of this seat share: the cells of the variables out of the rows' lists; a world for the witness. No conditions. -/
import Derived.Test.YtejkmhgkkibafaaGreatDoorJ9
import Derived.Test.YtejkmhgkkibafaaGreatDoorCards
import Derived.Test.YtejkmhgkkibafaaGreatDoorTie
import Derived.Test.YtejkmhgkkibafaaGreatDoorJ37
import Derived.WalkKit
import Derived.Lib.LaidTab
set_option linter.unusedSimpArgs false
set_option linter.unusedVariables false
namespace Go.Proofs.YtejkmhgkkibafaaGreatDoor
set_option maxRecDepth 100000
open Go.ChangeShapes Go.WideShapes Go.ChangeAt Go.RowKit Go.Deep
theorem laidMet_tl {P : Program} {x : String × DataW Unit} {r : List (String × DataW Unit)} {W : World} (h : laidMet P (x :: r) W) : laidMet P r W := by
  obtain ⟨ps, ⟨g, t, cs, fuel, p, q, _, _, _, _, hv, rfl⟩, hn, hc⟩ := h
  exact ⟨q, hv, (List.nodup_append.1 hn).2.1, fun b off hb => hc b off (List.mem_append_right _ hb)⟩
theorem Rd_of_tab {W : World} {name : String} {k : IntKind} {zs : List Int} {g : Nat} (h : Lib.TabIs Tryz.prog W name k zs) (hg : Tryz.prog.globalNamed name = some g) (h0 : 0 < zs.length) : Rd W g (zs.map fun z => Value.int k z).toArray := by
  refine ⟨fun j v hj => ?_, World.block_lt_of_cell? W ⟨g, 0, none⟩ (h.cell hg 0 h0)⟩
  rw [List.getElem?_toArray, List.getElem?_map] at hj
  cases hz : zs[j]? with
  | none => rw [hz] at hj; cases hj
  | some z =>
    rw [hz] at hj
    obtain rfl := Option.some.inj hj
    have hl : j < zs.length := by
      rcases Nat.lt_or_ge j zs.length with h | h
      · exact h
      · rw [List.getElem?_eq_none h] at hz; cases hz
    have := h.cell hg j hl
    rwa [List.getD_eq_getElem?_getD, hz] at this
theorem gr1K : Tryz.prog.globalNamed "custumal/custumalref01.K" = some 1 := by kernel_rfl
theorem rdr1K {W : World} {r : List (String × DataW Unit)} (h : laidMet Tryz.prog (("custumal/custumalref01.K", Rows.laid_custumal_custumalref01_K) :: r) W) : Rd W 1 (arrK .i64 64 kf4) :=
  have e : (kk4.map fun z => Value.int .i64 z).toArray = arrK .i64 64 kf4 := by kernel_rfl
  have t : Lib.TabIs Tryz.prog W "custumal/custumalref01.K" .i64 kk4 := Lib.tabIs_of_head (rest := r) gr1K (by kernel_rfl) Tryz.underlying100 Tryz.underlying3 (by kernel_rfl) (by kernel_rfl) h
  e ▸ Rd_of_tab t gr1K (by decide)
theorem gr1H : Tryz.prog.globalNamed "custumal/custumalref01.H" = some 0 := by kernel_rfl
theorem rdr1H {W : World} {r : List (String × DataW Unit)} (h : laidMet Tryz.prog (("custumal/custumalref01.H", Rows.laid_custumal_custumalref01_H) :: r) W) : Rd W 0 (arrK .i64 8 hf4) :=
  have e : (hh4.map fun z => Value.int .i64 z).toArray = arrK .i64 8 hf4 := by kernel_rfl
  have t : Lib.TabIs Tryz.prog W "custumal/custumalref01.H" .i64 hh4 := Lib.tabIs_of_head (rest := r) gr1H (by kernel_rfl) Tryz.underlying99 Tryz.underlying3 (by kernel_rfl) (by kernel_rfl) h
  e ▸ Rd_of_tab t gr1H (by decide)
theorem gs2S : Tryz.prog.globalNamed "custumal/sha2.start" = some 4 := by kernel_rfl
theorem rds2S {W : World} {r : List (String × DataW Unit)} (h : laidMet Tryz.prog (("custumal/sha2.start", Rows.laid_custumal_sha2_start) :: r) W) : Rd W 4 (arrK .u32 8 hf4) :=
  have e : (hh4.map fun z => Value.int .u32 z).toArray = arrK .u32 8 hf4 := by kernel_rfl
  have t : Lib.TabIs Tryz.prog W "custumal/sha2.start" .u32 hh4 := Lib.tabIs_of_head (rest := r) gs2S (by kernel_rfl) Tryz.underlying194 Tryz.underlying193 (by kernel_rfl) (by kernel_rfl) h
  e ▸ Rd_of_tab t gs2S (by decide)
theorem gs2R : Tryz.prog.globalNamed "custumal/sha2.rounds" = some 11 := by kernel_rfl
theorem rds2R {W : World} {r : List (String × DataW Unit)} (h : laidMet Tryz.prog (("custumal/sha2.rounds", Rows.laid_custumal_sha2_rounds) :: r) W) : Rd W 11 (arrK .u32 64 kf4) :=
  have e : (kk4.map fun z => Value.int .u32 z).toArray = arrK .u32 64 kf4 := by kernel_rfl
  have t : Lib.TabIs Tryz.prog W "custumal/sha2.rounds" .u32 kk4 := Lib.tabIs_of_head (rest := r) gs2R (by kernel_rfl) Tryz.underlying231 Tryz.underlying193 (by kernel_rfl) (by kernel_rfl) h
  e ▸ Rd_of_tab t gs2R (by decide)
theorem gs5S : Tryz.prog.globalNamed "custumal/sha5.start" = some 10 := by kernel_rfl
theorem rds5S {W : World} {r : List (String × DataW Unit)} (h : laidMet Tryz.prog (("custumal/sha5.start", Rows.laid_custumal_sha5_start) :: r) W) : Rd W 10 (arrK .u64 8 hf) :=
  have e : (hh.map fun z => Value.int .u64 z).toArray = arrK .u64 8 hf := by kernel_rfl
  have t : Lib.TabIs Tryz.prog W "custumal/sha5.start" .u64 hh := Lib.tabIs_of_head (rest := r) gs5S (by kernel_rfl) Tryz.underlying186 Tryz.underlying71 (by kernel_rfl) (by kernel_rfl) h
  e ▸ Rd_of_tab t gs5S (by decide)
theorem gs5R : Tryz.prog.globalNamed "custumal/sha5.rounds" = some 14 := by kernel_rfl
theorem rds5R {W : World} {r : List (String × DataW Unit)} (h : laidMet Tryz.prog (("custumal/sha5.rounds", Rows.laid_custumal_sha5_rounds) :: r) W) : Rd W 14 (arrK .u64 80 kf) :=
  have e : (kk.map fun z => Value.int .u64 z).toArray = arrK .u64 80 kf := by kernel_rfl
  have t : Lib.TabIs Tryz.prog W "custumal/sha5.rounds" .u64 kk := Lib.tabIs_of_head (rest := r) gs5R (by kernel_rfl) Tryz.underlying187 Tryz.underlying71 (by kernel_rfl) (by kernel_rfl) h
  e ▸ Rd_of_tab t gs5R (by decide)
theorem gfMod : Tryz.prog.globalNamed "custumal/field.modulus" = some 13 := by kernel_rfl
theorem rdfMod {W : World} {r : List (String × DataW Unit)} (h : laidMet Tryz.prog (("custumal/field.modulus", Rows.laid_custumal_field_modulus) :: r) W) : Rd W 13 (S8.modC) :=
  have t : Lib.TabIs Tryz.prog W "custumal/field.modulus" .u64 [18446744073709551597, 18446744073709551615, 18446744073709551615, 9223372036854775807] := Lib.tabIs_of_head (rest := r) gfMod (by kernel_rfl) Tryz.underlying155 Tryz.underlying71 (by kernel_rfl) (by kernel_rfl) h
  Rd_of_tab t gfMod (by decide)
theorem gfIma : Tryz.prog.globalNamed "custumal/field.imaginary" = some 12 := by kernel_rfl
theorem rdfIma {W : World} {r : List (String × DataW Unit)} (h : laidMet Tryz.prog (("custumal/field.imaginary", Rows.laid_custumal_field_imaginary) :: r) W) : Rd W 12 (S8.imaC) :=
  have t : Lib.TabIs Tryz.prog W "custumal/field.imaginary" .u64 [14190309331451158704, 3405592160176694392, 3120150775007532967, 3135389899092516619] := Lib.tabIs_of_head (rest := r) gfIma (by kernel_rfl) Tryz.underlying155 Tryz.underlying71 (by kernel_rfl) (by kernel_rfl) h
  Rd_of_tab t gfIma (by decide)
theorem geCur : Tryz.prog.globalNamed "custumal/edwards.curve" = some 8 := by kernel_rfl
theorem rdeCur {W : World} {r : List (String × DataW Unit)} (h : laidMet Tryz.prog (("custumal/edwards.curve", Rows.laid_custumal_edwards_curve) :: r) W) : Rd W 8 (c4 S8.DD) :=
  have t : Lib.TabIs Tryz.prog W "custumal/edwards.curve" .u64 [8496970652267935907,31536524315187371,10144147576115030168,5909686906226998899] := Lib.tabIs_of_head (rest := r) geCur (by kernel_rfl) Tryz.underlying155 Tryz.underlying71 (by kernel_rfl) (by kernel_rfl) h
  Rd_of_tab t geCur (by decide)
theorem geDbl : Tryz.prog.globalNamed "custumal/edwards.double" = some 9 := by kernel_rfl
theorem rdeDbl {W : World} {r : List (String × DataW Unit)} (h : laidMet Tryz.prog (("custumal/edwards.double", Rows.laid_custumal_edwards_double) :: r) W) : Rd W 9 (c4 S8.D2) :=
  have t : Lib.TabIs Tryz.prog W "custumal/edwards.double" .u64 [16993941304535871833,63073048630374742,1841551078520508720,2596001775599221991] := Lib.tabIs_of_head (rest := r) geDbl (by kernel_rfl) Tryz.underlying155 Tryz.underlying71 (by kernel_rfl) (by kernel_rfl) h
  Rd_of_tab t geDbl (by decide)
theorem geBsX : Tryz.prog.globalNamed "custumal/edwards.baseX" = some 5 := by kernel_rfl
theorem rdeBsX {W : World} {r : List (String × DataW Unit)} (h : laidMet Tryz.prog (("custumal/edwards.baseX", Rows.laid_custumal_edwards_baseX) :: r) W) : Rd W 5 (c4 S8.BX) :=
  have t : Lib.TabIs Tryz.prog W "custumal/edwards.baseX" .u64 [14507833142362363162,7578651490590762930,13881468655802702940,2407515759118799870] := Lib.tabIs_of_head (rest := r) geBsX (by kernel_rfl) Tryz.underlying155 Tryz.underlying71 (by kernel_rfl) (by kernel_rfl) h
  Rd_of_tab t geBsX (by decide)
theorem geBsY : Tryz.prog.globalNamed "custumal/edwards.baseY" = some 6 := by kernel_rfl
theorem rdeBsY {W : World} {r : List (String × DataW Unit)} (h : laidMet Tryz.prog (("custumal/edwards.baseY", Rows.laid_custumal_edwards_baseY) :: r) W) : Rd W 6 (c4 S8.BY) :=
  have t : Lib.TabIs Tryz.prog W "custumal/edwards.baseY" .u64 [7378697629483820632,7378697629483820646,7378697629483820646,7378697629483820646] := Lib.tabIs_of_head (rest := r) geBsY (by kernel_rfl) Tryz.underlying155 Tryz.underlying71 (by kernel_rfl) (by kernel_rfl) h
  Rd_of_tab t geBsY (by decide)
theorem gOrd : Tryz.prog.globalNamed "custumal/scalar.order" = some 7 := by kernel_rfl
theorem rdOrd {W : World} {r : List (String × DataW Unit)} (h : laidMet Tryz.prog (("custumal/scalar.order", Rows.laid_custumal_scalar_order) :: r) W) : S8.Sc.GL W :=
  have t : Lib.TabIs Tryz.prog W "custumal/scalar.order" .u64 [6346243789798364141, 1503914060200516822, 0, 1152921504606846976] := Lib.tabIs_of_head (rest := r) gOrd (by kernel_rfl) Tryz.underlying153 Tryz.underlying71 (by kernel_rfl) (by kernel_rfl) h
  have h0 := t.cell gOrd 0 (by decide)
  ⟨h0, t.cell gOrd 1 (by decide), t.cell gOrd 2 (by decide), t.cell gOrd 3 (by decide), World.block_lt_of_cell? W _ h0⟩
theorem gt_superTexts {W : World} (h : laidMet Tryz.prog [("custumal/custumalref01.K", Rows.laid_custumal_custumalref01_K), ("custumal/custumalref01.H", Rows.laid_custumal_custumalref01_H), ("custumal/field.modulus", Rows.laid_custumal_field_modulus), ("custumal/field.imaginary", Rows.laid_custumal_field_imaginary), ("custumal/edwards.curve", Rows.laid_custumal_edwards_curve), ("custumal/edwards.double", Rows.laid_custumal_edwards_double), ("custumal/edwards.baseX", Rows.laid_custumal_edwards_baseX), ("custumal/edwards.baseY", Rows.laid_custumal_edwards_baseY), ("custumal/scalar.order", Rows.laid_custumal_scalar_order), ("custumal/sha2.start", Rows.laid_custumal_sha2_start), ("custumal/sha2.rounds", Rows.laid_custumal_sha2_rounds), ("custumal/sha5.start", Rows.laid_custumal_sha5_start), ("custumal/sha5.rounds", Rows.laid_custumal_sha5_rounds)] W) : GT True W := ⟨⟨(rds2R (laidMet_tl (laidMet_tl (laidMet_tl (laidMet_tl (laidMet_tl (laidMet_tl (laidMet_tl (laidMet_tl (laidMet_tl (laidMet_tl h))))))))))), (rds2S (laidMet_tl (laidMet_tl (laidMet_tl (laidMet_tl (laidMet_tl (laidMet_tl (laidMet_tl (laidMet_tl (laidMet_tl h))))))))))⟩, fun _ => ⟨(rdr1K h), (rdr1H (laidMet_tl h))⟩⟩
theorem ga_superTexts {W : World} (h : laidMet Tryz.prog [("custumal/custumalref01.K", Rows.laid_custumal_custumalref01_K), ("custumal/custumalref01.H", Rows.laid_custumal_custumalref01_H), ("custumal/field.modulus", Rows.laid_custumal_field_modulus), ("custumal/field.imaginary", Rows.laid_custumal_field_imaginary), ("custumal/edwards.curve", Rows.laid_custumal_edwards_curve), ("custumal/edwards.double", Rows.laid_custumal_edwards_double), ("custumal/edwards.baseX", Rows.laid_custumal_edwards_baseX), ("custumal/edwards.baseY", Rows.laid_custumal_edwards_baseY), ("custumal/scalar.order", Rows.laid_custumal_scalar_order), ("custumal/sha2.start", Rows.laid_custumal_sha2_start), ("custumal/sha2.rounds", Rows.laid_custumal_sha2_rounds), ("custumal/sha5.start", Rows.laid_custumal_sha5_start), ("custumal/sha5.rounds", Rows.laid_custumal_sha5_rounds)] W) : S8.GA ⟨True, True, True, False⟩ W := ⟨⟨⟨(rdfMod (laidMet_tl (laidMet_tl h))), trivial⟩, fun _ => (rdfIma (laidMet_tl (laidMet_tl (laidMet_tl h)))), fun _ => (rdeCur (laidMet_tl (laidMet_tl (laidMet_tl (laidMet_tl h))))), fun _ => (rdeDbl (laidMet_tl (laidMet_tl (laidMet_tl (laidMet_tl (laidMet_tl h)))))), fun _ => (rdeBsX (laidMet_tl (laidMet_tl (laidMet_tl (laidMet_tl (laidMet_tl (laidMet_tl h))))))), fun _ => (rdeBsY (laidMet_tl (laidMet_tl (laidMet_tl (laidMet_tl (laidMet_tl (laidMet_tl (laidMet_tl h))))))))⟩, ⟨(rds5R (laidMet_tl (laidMet_tl (laidMet_tl (laidMet_tl (laidMet_tl (laidMet_tl (laidMet_tl (laidMet_tl (laidMet_tl (laidMet_tl (laidMet_tl (laidMet_tl h))))))))))))), (rds5S (laidMet_tl (laidMet_tl (laidMet_tl (laidMet_tl (laidMet_tl (laidMet_tl (laidMet_tl (laidMet_tl (laidMet_tl (laidMet_tl (laidMet_tl h))))))))))))⟩, (rdOrd (laidMet_tl (laidMet_tl (laidMet_tl (laidMet_tl (laidMet_tl (laidMet_tl (laidMet_tl (laidMet_tl h))))))))), fun h => h.elim⟩
theorem gx_superTexts {W : World} (h : laidMet Tryz.prog [("custumal/custumalref01.K", Rows.laid_custumal_custumalref01_K), ("custumal/custumalref01.H", Rows.laid_custumal_custumalref01_H), ("custumal/field.modulus", Rows.laid_custumal_field_modulus), ("custumal/field.imaginary", Rows.laid_custumal_field_imaginary), ("custumal/edwards.curve", Rows.laid_custumal_edwards_curve), ("custumal/edwards.double", Rows.laid_custumal_edwards_double), ("custumal/edwards.baseX", Rows.laid_custumal_edwards_baseX), ("custumal/edwards.baseY", Rows.laid_custumal_edwards_baseY), ("custumal/scalar.order", Rows.laid_custumal_scalar_order), ("custumal/sha2.start", Rows.laid_custumal_sha2_start), ("custumal/sha2.rounds", Rows.laid_custumal_sha2_rounds), ("custumal/sha5.start", Rows.laid_custumal_sha5_start), ("custumal/sha5.rounds", Rows.laid_custumal_sha5_rounds)] W) : GX W := ⟨⟨(rds2R (laidMet_tl (laidMet_tl (laidMet_tl (laidMet_tl (laidMet_tl (laidMet_tl (laidMet_tl (laidMet_tl (laidMet_tl (laidMet_tl h))))))))))), (rds2S (laidMet_tl (laidMet_tl (laidMet_tl (laidMet_tl (laidMet_tl (laidMet_tl (laidMet_tl (laidMet_tl (laidMet_tl h))))))))))⟩, ga_superTexts h⟩
theorem cut_m (n : Nat) (L : List UInt8) : (List.take (min L.length n) L).length ≤ n := by rw [List.length_take]; omega
/-- a block's cells put down -/
def putCells (cs : Array Value) : Obj → Obj
  | .cells _ t frozen => .cells cs t frozen
  | o => o
/-- A world for the witness: the variables' blocks hold what their initialisers lay. -/
noncomputable def laidWorld (os : Os) : World := { World.holding Tryz.prog os ⟨#[], #[], []⟩ with heap := ((((((((((((((((World.holding Tryz.prog os ⟨#[], #[], []⟩).heap.modify 1 (putCells (arrK .i64 64 kf4))).modify 0 (putCells (arrK .i64 8 hf4))).modify 3 (putCells (arrK .u64 80 kf))).modify 2 (putCells (arrK .u64 8 hf))).modify 4 (putCells (arrK .u32 8 hf4))).modify 11 (putCells (arrK .u32 64 kf4))).modify 10 (putCells (arrK .u64 8 hf))).modify 14 (putCells (arrK .u64 80 kf))).modify 13 (putCells (S8.modC))).modify 12 (putCells (S8.imaC))).modify 8 (putCells (c4 S8.DD))).modify 9 (putCells (c4 S8.D2))).modify 5 (putCells (c4 S8.BX))).modify 6 (putCells (c4 S8.BY))).modify 7 (putCells (#[.int .u64 6346243789798364141, .int .u64 1503914060200516822, .int .u64 0, .int .u64 1152921504606846976]))) }
end Go.Proofs.YtejkmhgkkibafaaGreatDoor
