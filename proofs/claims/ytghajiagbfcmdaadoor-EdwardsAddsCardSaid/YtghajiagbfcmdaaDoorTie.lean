/-
  DERIVED. GIVEN WITH THE SEED: THE PROGRAM's TIES (one call each: nine closed facts by the kernel) AND EACH ROW's TIE, after the 31st guide's Derived/Test/Toyas{Tie, Card}.lean. No idea stands in it: it is a product of the set-up. Laid BY PROGRAM, IN A SANDBOX (cutbox-door.mjs). By AI agents, Wed Nov 11 2026. No macro, syntax, notation, axiom, sorry.
-/
import Derived.Test.YtghajiagbfcmdaaDoorRows
import Derived.LaidByTextLater
import Derived.SevenTiedAt
import Derived.LaidSub
import Derived.LaidOnce
namespace Go.Proofs.YtghajiagbfcmdaaDoor
open Go
set_option maxRecDepth 100000
theorem seatTie1 : Tryd.prog.laidByTextLater [("custumal/field.modulus", Rows.laid_custumal_field_modulus), ("custumal/field.imaginary", Rows.laid_custumal_field_imaginary), ("custumal/edwards.curve", Rows.laid_custumal_edwards_curve), ("custumal/edwards.double", Rows.laid_custumal_edwards_double), ("custumal/edwards.baseX", Rows.laid_custumal_edwards_baseX), ("custumal/edwards.baseY", Rows.laid_custumal_edwards_baseY)] [.wider, .data, .data, .data, .data, .data] true :=
  Program.laidByTextLater_by_one 39 8 5 (by kernel_rfl) (by kernel_rfl) (by kernel_rfl) (by kernel_rfl) (by kernel_rfl) (by kernel_rfl) (fun _ _ => by kernel_rfl)
theorem noOwnUnsafe : Tryd.pinned.checked.prog.headLifts.contains "ownunsafe" = false := by kernel_rfl
theorem tie : Tryd.prog.laidByTextLater [("custumal/field.modulus", Rows.laid_custumal_field_modulus), ("custumal/edwards.double", Rows.laid_custumal_edwards_double), ("custumal/edwards.baseX", Rows.laid_custumal_edwards_baseX), ("custumal/edwards.baseY", Rows.laid_custumal_edwards_baseY)] [.wider, .data, .data, .data] true :=
  Program.laidByTextLater.sub seatTie1 ["custumal/field.modulus", "custumal/edwards.double", "custumal/edwards.baseX", "custumal/edwards.baseY"] (by kernel_rfl) (by kernel_rfl)
theorem edwardsLaws_row_tie : Rows.edwardsLawsRow.laidByTextAt .later Tryd.pinned [.wider, .data, .data, .data] true :=
  OpenClaim.laidByTextAt_later rfl rfl tie noOwnUnsafe
theorem tie2 : Tryd.prog.laidByTextLater [("custumal/field.modulus", Rows.laid_custumal_field_modulus), ("custumal/field.imaginary", Rows.laid_custumal_field_imaginary), ("custumal/edwards.curve", Rows.laid_custumal_edwards_curve), ("custumal/edwards.baseX", Rows.laid_custumal_edwards_baseX), ("custumal/edwards.baseY", Rows.laid_custumal_edwards_baseY)] [.wider, .data, .data, .data, .data] true :=
  Program.laidByTextLater.sub seatTie1 ["custumal/field.modulus", "custumal/field.imaginary", "custumal/edwards.curve", "custumal/edwards.baseX", "custumal/edwards.baseY"] (by kernel_rfl) (by kernel_rfl)
theorem edwardsDecodes_row_tie : Rows.edwardsDecodesRow.laidByTextAt .later Tryd.pinned [.wider, .data, .data, .data, .data] true :=
  OpenClaim.laidByTextAt_later rfl rfl tie2 noOwnUnsafe
theorem tie3 : Tryd.prog.laidByTextLater [("custumal/field.modulus", Rows.laid_custumal_field_modulus), ("custumal/field.imaginary", Rows.laid_custumal_field_imaginary), ("custumal/edwards.curve", Rows.laid_custumal_edwards_curve), ("custumal/edwards.double", Rows.laid_custumal_edwards_double), ("custumal/edwards.baseX", Rows.laid_custumal_edwards_baseX), ("custumal/edwards.baseY", Rows.laid_custumal_edwards_baseY)] [.wider, .data, .data, .data, .data, .data] true :=
  Program.laidByTextLater.sub seatTie1 ["custumal/field.modulus", "custumal/field.imaginary", "custumal/edwards.curve", "custumal/edwards.double", "custumal/edwards.baseX", "custumal/edwards.baseY"] (by kernel_rfl) (by kernel_rfl)
theorem edwardsTimes_row_tie : Rows.edwardsTimesRow.laidByTextAt .later Tryd.pinned [.wider, .data, .data, .data, .data, .data] true :=
  OpenClaim.laidByTextAt_later rfl rfl tie3 noOwnUnsafe
theorem edwardsAdds_row_tie : Rows.edwardsAddsRow.laidByTextAt .later Tryd.pinned [.wider, .data, .data, .data, .data, .data] true :=
  OpenClaim.laidByTextAt_later rfl rfl tie3 noOwnUnsafe
theorem edwardsLawsUpto_row_tie : Rows.edwardsLawsUptoRow.laidByTextAt .later Tryd.pinned [.wider, .data, .data, .data] true :=
  OpenClaim.laidByTextAt_later rfl rfl tie noOwnUnsafe
theorem edwardsDecodesUpto_row_tie : Rows.edwardsDecodesUptoRow.laidByTextAt .later Tryd.pinned [.wider, .data, .data, .data, .data] true :=
  OpenClaim.laidByTextAt_later rfl rfl tie2 noOwnUnsafe
theorem edwardsTimesUpto_row_tie : Rows.edwardsTimesUptoRow.laidByTextAt .later Tryd.pinned [.wider, .data, .data, .data, .data, .data] true :=
  OpenClaim.laidByTextAt_later rfl rfl tie3 noOwnUnsafe
theorem edwardsAddsUpto_row_tie : Rows.edwardsAddsUptoRow.laidByTextAt .later Tryd.pinned [.wider, .data, .data, .data, .data, .data] true :=
  OpenClaim.laidByTextAt_later rfl rfl tie3 noOwnUnsafe
end Go.Proofs.YtghajiagbfcmdaaDoor
