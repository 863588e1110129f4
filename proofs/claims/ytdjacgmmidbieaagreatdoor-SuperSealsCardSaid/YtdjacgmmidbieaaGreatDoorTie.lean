/-
  DERIVED. GIVEN WITH THE SEED: THE PROGRAM's TIES (one call each: nine closed facts by the kernel) AND EACH ROW's TIE, after the 31st guide's Derived/Test/Toyas{Tie, Card}.lean. No idea stands in it: it is a product of the set-up. Laid BY PROGRAM, IN A SANDBOX (cutbox-door.mjs). By AI agents, Wed Nov 11 2026. No macro, syntax, notation, axiom, sorry.
-/
import Derived.Test.YtdjacgmmidbieaaGreatDoorRows
import Derived.LaidByTextLater
import Derived.SevenTiedAt
import Derived.LaidSub
import Derived.LaidOnce
namespace Go.Proofs.YtdjacgmmidbieaaGreatDoor
open Go
set_option maxRecDepth 100000
theorem seatTie1 : Tryz.prog.laidByTextLater [("custumal/custumalref01.K", Rows.laid_custumal_custumalref01_K), ("custumal/custumalref01.H", Rows.laid_custumal_custumalref01_H), ("custumal/custumalref02.K", Rows.laid_custumal_custumalref02_K), ("custumal/custumalref02.H", Rows.laid_custumal_custumalref02_H), ("custumal/field.modulus", Rows.laid_custumal_field_modulus), ("custumal/field.imaginary", Rows.laid_custumal_field_imaginary), ("custumal/edwards.curve", Rows.laid_custumal_edwards_curve), ("custumal/edwards.double", Rows.laid_custumal_edwards_double), ("custumal/edwards.baseX", Rows.laid_custumal_edwards_baseX), ("custumal/edwards.baseY", Rows.laid_custumal_edwards_baseY), ("custumal/scalar.order", Rows.laid_custumal_scalar_order), ("custumal/sha2.start", Rows.laid_custumal_sha2_start), ("custumal/sha2.rounds", Rows.laid_custumal_sha2_rounds), ("custumal/sha5.start", Rows.laid_custumal_sha5_start), ("custumal/sha5.rounds", Rows.laid_custumal_sha5_rounds)] [.data, .data, .data, .data, .wider, .data, .data, .data, .data, .data, .wider, .data, .data, .data, .data] true :=
  Program.laidByTextLater_by_one 84 8 81 (by kernel_rfl) (by kernel_rfl) (by kernel_rfl) (by kernel_rfl) (by kernel_rfl) (by kernel_rfl) (fun _ _ => by kernel_rfl)
theorem noOwnUnsafe : Tryz.pinned.checked.prog.headLifts.contains "ownunsafe" = false := by kernel_rfl
theorem tie : Tryz.prog.laidByTextLater [("custumal/custumalref01.K", Rows.laid_custumal_custumalref01_K), ("custumal/custumalref01.H", Rows.laid_custumal_custumalref01_H), ("custumal/custumalref02.K", Rows.laid_custumal_custumalref02_K), ("custumal/custumalref02.H", Rows.laid_custumal_custumalref02_H), ("custumal/field.modulus", Rows.laid_custumal_field_modulus), ("custumal/field.imaginary", Rows.laid_custumal_field_imaginary), ("custumal/edwards.curve", Rows.laid_custumal_edwards_curve), ("custumal/edwards.double", Rows.laid_custumal_edwards_double), ("custumal/edwards.baseX", Rows.laid_custumal_edwards_baseX), ("custumal/edwards.baseY", Rows.laid_custumal_edwards_baseY), ("custumal/scalar.order", Rows.laid_custumal_scalar_order), ("custumal/sha2.start", Rows.laid_custumal_sha2_start), ("custumal/sha2.rounds", Rows.laid_custumal_sha2_rounds), ("custumal/sha5.start", Rows.laid_custumal_sha5_start), ("custumal/sha5.rounds", Rows.laid_custumal_sha5_rounds)] [.data, .data, .data, .data, .wider, .data, .data, .data, .data, .data, .wider, .data, .data, .data, .data] true :=
  Program.laidByTextLater.sub seatTie1 ["custumal/custumalref01.K", "custumal/custumalref01.H", "custumal/custumalref02.K", "custumal/custumalref02.H", "custumal/field.modulus", "custumal/field.imaginary", "custumal/edwards.curve", "custumal/edwards.double", "custumal/edwards.baseX", "custumal/edwards.baseY", "custumal/scalar.order", "custumal/sha2.start", "custumal/sha2.rounds", "custumal/sha5.start", "custumal/sha5.rounds"] (by kernel_rfl) (by kernel_rfl)
theorem superSeals_row_tie : Rows.superSealsRow.laidByTextAt .later Tryz.pinned [.data, .data, .data, .data, .wider, .data, .data, .data, .data, .data, .wider, .data, .data, .data, .data] true :=
  OpenClaim.laidByTextAt_later rfl rfl tie noOwnUnsafe
theorem superSealsUpto_row_tie : Rows.superSealsUptoRow.laidByTextAt .later Tryz.pinned [.data, .data, .data, .data, .wider, .data, .data, .data, .data, .data, .wider, .data, .data, .data, .data] true :=
  OpenClaim.laidByTextAt_later rfl rfl tie noOwnUnsafe
end Go.Proofs.YtdjacgmmidbieaaGreatDoor
