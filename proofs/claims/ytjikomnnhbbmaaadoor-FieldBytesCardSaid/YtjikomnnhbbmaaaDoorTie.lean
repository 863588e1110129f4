/-
  DERIVED. GIVEN WITH THE SEED: THE PROGRAM's TIES (one call each: nine closed facts by the kernel) AND EACH ROW's TIE, after the 31st guide's Derived/Test/Toyas{Tie, Card}.lean. No idea stands in it: it is a product of the set-up. Laid BY PROGRAM, IN A SANDBOX (cutbox-door.mjs). By AI agents, Wed Nov 11 2026. No macro, syntax, notation, axiom, sorry.
-/
import Derived.Test.YtjikomnnhbbmaaaDoorRows
import Derived.LaidByTextLater
import Derived.SevenTiedAt
import Derived.LaidSub
import Derived.LaidOnce
namespace Go.Proofs.YtjikomnnhbbmaaaDoor
open Go
set_option maxRecDepth 100000
theorem seatTie1 : Tryd.prog.laidByTextLater [("custumal/field.modulus", Rows.laid_custumal_field_modulus), ("custumal/field.imaginary", Rows.laid_custumal_field_imaginary)] [.wider, .data] true :=
  Program.laidByTextLater_by_one 19 8 5 (by kernel_rfl) (by kernel_rfl) (by kernel_rfl) (by kernel_rfl) (by kernel_rfl) (by kernel_rfl) (fun _ _ => by kernel_rfl)
theorem noOwnUnsafe : Tryd.pinned.checked.prog.headLifts.contains "ownunsafe" = false := by kernel_rfl
theorem tie : Tryd.prog.laidByTextLater [("custumal/field.modulus", Rows.laid_custumal_field_modulus)] [.wider] true :=
  Program.laidByTextLater.sub seatTie1 ["custumal/field.modulus"] (by kernel_rfl) (by kernel_rfl)
theorem fieldPowers_row_tie : Rows.fieldPowersRow.laidByTextAt .later Tryd.pinned [.wider] true :=
  OpenClaim.laidByTextAt_later rfl rfl tie noOwnUnsafe
theorem fieldSums_row_tie : Rows.fieldSumsRow.laidByTextAt .later Tryd.pinned [.wider] true :=
  OpenClaim.laidByTextAt_later rfl rfl tie noOwnUnsafe
theorem fieldBytes_row_tie : Rows.fieldBytesRow.laidByTextAt .later Tryd.pinned [.wider] true :=
  OpenClaim.laidByTextAt_later rfl rfl tie noOwnUnsafe
theorem tie2 : Tryd.prog.laidByTextLater [("custumal/field.modulus", Rows.laid_custumal_field_modulus), ("custumal/field.imaginary", Rows.laid_custumal_field_imaginary)] [.wider, .data] true :=
  Program.laidByTextLater.sub seatTie1 ["custumal/field.modulus", "custumal/field.imaginary"] (by kernel_rfl) (by kernel_rfl)
theorem fieldRoots_row_tie : Rows.fieldRootsRow.laidByTextAt .later Tryd.pinned [.wider, .data] true :=
  OpenClaim.laidByTextAt_later rfl rfl tie2 noOwnUnsafe
theorem fieldLaws_row_tie : Rows.fieldLawsRow.laidByTextAt .later Tryd.pinned [.wider, .data] true :=
  OpenClaim.laidByTextAt_later rfl rfl tie2 noOwnUnsafe
theorem fieldPowersUpto_row_tie : Rows.fieldPowersUptoRow.laidByTextAt .later Tryd.pinned [.wider] true :=
  OpenClaim.laidByTextAt_later rfl rfl tie noOwnUnsafe
theorem fieldSumsUpto_row_tie : Rows.fieldSumsUptoRow.laidByTextAt .later Tryd.pinned [.wider] true :=
  OpenClaim.laidByTextAt_later rfl rfl tie noOwnUnsafe
theorem fieldRootsUpto_row_tie : Rows.fieldRootsUptoRow.laidByTextAt .later Tryd.pinned [.wider, .data] true :=
  OpenClaim.laidByTextAt_later rfl rfl tie2 noOwnUnsafe
theorem fieldLawsUpto_row_tie : Rows.fieldLawsUptoRow.laidByTextAt .later Tryd.pinned [.wider, .data] true :=
  OpenClaim.laidByTextAt_later rfl rfl tie2 noOwnUnsafe
theorem fieldBytesUpto_row_tie : Rows.fieldBytesUptoRow.laidByTextAt .later Tryd.pinned [.wider] true :=
  OpenClaim.laidByTextAt_later rfl rfl tie noOwnUnsafe
end Go.Proofs.YtjikomnnhbbmaaaDoor
