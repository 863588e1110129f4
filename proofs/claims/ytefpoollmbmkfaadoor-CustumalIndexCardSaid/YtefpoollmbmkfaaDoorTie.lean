/-
  DERIVED. GIVEN WITH THE SEED: THE PROGRAM's TIES (one call each: nine closed facts by the kernel) AND EACH ROW's TIE, after the 31st guide's Derived/Test/Toyas{Tie, Card}.lean. No idea stands in it: it is a product of the set-up. Laid BY PROGRAM, IN A SANDBOX (cutbox-door.mjs). By AI agents, Wed Nov 11 2026. No macro, syntax, notation, axiom, sorry.
-/
import Derived.Test.YtefpoollmbmkfaaDoorRows
import Derived.LaidByTextLater
import Derived.SevenTiedAt
import Derived.LaidSub
import Derived.LaidOnce
namespace Go.Proofs.YtefpoollmbmkfaaDoor
open Go
set_option maxRecDepth 100000
theorem seatTie1 : Tryd.prog.laidByTextLater [("custumal/custumalref02.K", Rows.laid_custumal_custumalref02_K), ("custumal/custumalref02.H", Rows.laid_custumal_custumalref02_H), ("custumal/field.modulus", Rows.laid_custumal_field_modulus), ("custumal/edwards.double", Rows.laid_custumal_edwards_double), ("custumal/edwards.baseX", Rows.laid_custumal_edwards_baseX), ("custumal/edwards.baseY", Rows.laid_custumal_edwards_baseY), ("custumal/scalar.order", Rows.laid_custumal_scalar_order), ("custumal/sha5.start", Rows.laid_custumal_sha5_start), ("custumal/sha5.rounds", Rows.laid_custumal_sha5_rounds)] [.data, .data, .wider, .data, .data, .data, .wider, .data, .data] true :=
  Program.laidByTextLater_by_one 74 8 81 (by kernel_rfl) (by kernel_rfl) (by kernel_rfl) (by kernel_rfl) (by kernel_rfl) (by kernel_rfl) (fun _ _ => by kernel_rfl)
theorem seatTie2 : Tryd.prog.laidByTextLater [("custumal/custumalref02.K", Rows.laid_custumal_custumalref02_K), ("custumal/custumalref02.H", Rows.laid_custumal_custumalref02_H), ("custumal/field.modulus", Rows.laid_custumal_field_modulus), ("custumal/field.imaginary", Rows.laid_custumal_field_imaginary), ("custumal/edwards.curve", Rows.laid_custumal_edwards_curve), ("custumal/edwards.double", Rows.laid_custumal_edwards_double), ("custumal/edwards.baseX", Rows.laid_custumal_edwards_baseX), ("custumal/edwards.baseY", Rows.laid_custumal_edwards_baseY), ("custumal/scalar.order", Rows.laid_custumal_scalar_order), ("custumal/sha5.start", Rows.laid_custumal_sha5_start), ("custumal/sha5.rounds", Rows.laid_custumal_sha5_rounds)] [.data, .data, .wider, .data, .data, .data, .data, .data, .wider, .data, .data] true :=
  Program.laidByTextLater_by_one 74 8 81 (by kernel_rfl) (by kernel_rfl) (by kernel_rfl) (by kernel_rfl) (by kernel_rfl) (by kernel_rfl) (fun _ _ => by kernel_rfl)
theorem seatTie3 : Tryd.prog.laidByTextLater [("custumal/field.modulus", Rows.laid_custumal_field_modulus), ("custumal/field.imaginary", Rows.laid_custumal_field_imaginary), ("custumal/edwards.curve", Rows.laid_custumal_edwards_curve), ("custumal/edwards.double", Rows.laid_custumal_edwards_double), ("custumal/edwards.baseX", Rows.laid_custumal_edwards_baseX), ("custumal/edwards.baseY", Rows.laid_custumal_edwards_baseY), ("custumal/scalar.order", Rows.laid_custumal_scalar_order), ("custumal/sha2.start", Rows.laid_custumal_sha2_start), ("custumal/sha2.rounds", Rows.laid_custumal_sha2_rounds), ("custumal/sha5.start", Rows.laid_custumal_sha5_start), ("custumal/sha5.rounds", Rows.laid_custumal_sha5_rounds)] [.wider, .data, .data, .data, .data, .data, .wider, .data, .data, .data, .data] true :=
  Program.laidByTextLater_by_one 74 8 81 (by kernel_rfl) (by kernel_rfl) (by kernel_rfl) (by kernel_rfl) (by kernel_rfl) (by kernel_rfl) (fun _ _ => by kernel_rfl)
theorem noOwnUnsafe : Tryd.pinned.checked.prog.headLifts.contains "ownunsafe" = false := by kernel_rfl
theorem tie : Tryd.prog.laidByTextLater [("custumal/custumalref02.K", Rows.laid_custumal_custumalref02_K), ("custumal/custumalref02.H", Rows.laid_custumal_custumalref02_H), ("custumal/field.modulus", Rows.laid_custumal_field_modulus), ("custumal/edwards.double", Rows.laid_custumal_edwards_double), ("custumal/edwards.baseX", Rows.laid_custumal_edwards_baseX), ("custumal/edwards.baseY", Rows.laid_custumal_edwards_baseY), ("custumal/scalar.order", Rows.laid_custumal_scalar_order), ("custumal/sha5.start", Rows.laid_custumal_sha5_start), ("custumal/sha5.rounds", Rows.laid_custumal_sha5_rounds)] [.data, .data, .wider, .data, .data, .data, .wider, .data, .data] true :=
  Program.laidByTextLater.sub seatTie1 ["custumal/custumalref02.K", "custumal/custumalref02.H", "custumal/field.modulus", "custumal/edwards.double", "custumal/edwards.baseX", "custumal/edwards.baseY", "custumal/scalar.order", "custumal/sha5.start", "custumal/sha5.rounds"] (by kernel_rfl) (by kernel_rfl)
theorem signMakes_row_tie : Rows.signMakesRow.laidByTextAt .later Tryd.pinned [.data, .data, .wider, .data, .data, .data, .wider, .data, .data] true :=
  OpenClaim.laidByTextAt_later rfl rfl tie noOwnUnsafe
theorem tie2 : Tryd.prog.laidByTextLater [("custumal/custumalref02.K", Rows.laid_custumal_custumalref02_K), ("custumal/custumalref02.H", Rows.laid_custumal_custumalref02_H), ("custumal/field.modulus", Rows.laid_custumal_field_modulus), ("custumal/field.imaginary", Rows.laid_custumal_field_imaginary), ("custumal/edwards.curve", Rows.laid_custumal_edwards_curve), ("custumal/edwards.double", Rows.laid_custumal_edwards_double), ("custumal/edwards.baseX", Rows.laid_custumal_edwards_baseX), ("custumal/edwards.baseY", Rows.laid_custumal_edwards_baseY), ("custumal/scalar.order", Rows.laid_custumal_scalar_order), ("custumal/sha5.start", Rows.laid_custumal_sha5_start), ("custumal/sha5.rounds", Rows.laid_custumal_sha5_rounds)] [.data, .data, .wider, .data, .data, .data, .data, .data, .wider, .data, .data] true :=
  Program.laidByTextLater.sub seatTie2 ["custumal/custumalref02.K", "custumal/custumalref02.H", "custumal/field.modulus", "custumal/field.imaginary", "custumal/edwards.curve", "custumal/edwards.double", "custumal/edwards.baseX", "custumal/edwards.baseY", "custumal/scalar.order", "custumal/sha5.start", "custumal/sha5.rounds"] (by kernel_rfl) (by kernel_rfl)
theorem signChecks_row_tie : Rows.signChecksRow.laidByTextAt .later Tryd.pinned [.data, .data, .wider, .data, .data, .data, .data, .data, .wider, .data, .data] true :=
  OpenClaim.laidByTextAt_later rfl rfl tie2 noOwnUnsafe
theorem signBent_row_tie : Rows.signBentRow.laidByTextAt .later Tryd.pinned [.data, .data, .wider, .data, .data, .data, .data, .data, .wider, .data, .data] true :=
  OpenClaim.laidByTextAt_later rfl rfl tie2 noOwnUnsafe
theorem vrfProves_row_tie : Rows.vrfProvesRow.laidByTextAt .later Tryd.pinned [.data, .data, .wider, .data, .data, .data, .data, .data, .wider, .data, .data] true :=
  OpenClaim.laidByTextAt_later rfl rfl tie2 noOwnUnsafe
theorem vrfBent_row_tie : Rows.vrfBentRow.laidByTextAt .later Tryd.pinned [.data, .data, .wider, .data, .data, .data, .data, .data, .wider, .data, .data] true :=
  OpenClaim.laidByTextAt_later rfl rfl tie2 noOwnUnsafe
theorem vrfChecks_row_tie : Rows.vrfChecksRow.laidByTextAt .later Tryd.pinned [.data, .data, .wider, .data, .data, .data, .data, .data, .wider, .data, .data] true :=
  OpenClaim.laidByTextAt_later rfl rfl tie2 noOwnUnsafe
theorem tie3 : Tryd.prog.laidByTextLater [("custumal/field.modulus", Rows.laid_custumal_field_modulus), ("custumal/field.imaginary", Rows.laid_custumal_field_imaginary), ("custumal/edwards.curve", Rows.laid_custumal_edwards_curve), ("custumal/edwards.double", Rows.laid_custumal_edwards_double), ("custumal/edwards.baseX", Rows.laid_custumal_edwards_baseX), ("custumal/edwards.baseY", Rows.laid_custumal_edwards_baseY), ("custumal/scalar.order", Rows.laid_custumal_scalar_order), ("custumal/sha5.start", Rows.laid_custumal_sha5_start), ("custumal/sha5.rounds", Rows.laid_custumal_sha5_rounds)] [.wider, .data, .data, .data, .data, .data, .wider, .data, .data] true :=
  Program.laidByTextLater.sub seatTie3 ["custumal/field.modulus", "custumal/field.imaginary", "custumal/edwards.curve", "custumal/edwards.double", "custumal/edwards.baseX", "custumal/edwards.baseY", "custumal/scalar.order", "custumal/sha5.start", "custumal/sha5.rounds"] (by kernel_rfl) (by kernel_rfl)
theorem signBack_row_tie : Rows.signBackRow.laidByTextAt .later Tryd.pinned [.wider, .data, .data, .data, .data, .data, .wider, .data, .data] true :=
  OpenClaim.laidByTextAt_later rfl rfl tie3 noOwnUnsafe
theorem signTwins_row_tie : Rows.signTwinsRow.laidByTextAt .later Tryd.pinned [.wider, .data, .data, .data, .data, .data, .wider, .data, .data] true :=
  OpenClaim.laidByTextAt_later rfl rfl tie3 noOwnUnsafe
theorem vrfBack_row_tie : Rows.vrfBackRow.laidByTextAt .later Tryd.pinned [.wider, .data, .data, .data, .data, .data, .wider, .data, .data] true :=
  OpenClaim.laidByTextAt_later rfl rfl tie3 noOwnUnsafe
theorem vrfNeutral_row_tie : Rows.vrfNeutralRow.laidByTextAt .later Tryd.pinned [.wider, .data, .data, .data, .data, .data, .wider, .data, .data] true :=
  OpenClaim.laidByTextAt_later rfl rfl tie3 noOwnUnsafe
theorem tie4 : Tryd.prog.laidByTextLater [("custumal/field.modulus", Rows.laid_custumal_field_modulus), ("custumal/field.imaginary", Rows.laid_custumal_field_imaginary), ("custumal/edwards.curve", Rows.laid_custumal_edwards_curve), ("custumal/edwards.double", Rows.laid_custumal_edwards_double), ("custumal/edwards.baseX", Rows.laid_custumal_edwards_baseX), ("custumal/edwards.baseY", Rows.laid_custumal_edwards_baseY), ("custumal/scalar.order", Rows.laid_custumal_scalar_order), ("custumal/sha2.start", Rows.laid_custumal_sha2_start), ("custumal/sha2.rounds", Rows.laid_custumal_sha2_rounds), ("custumal/sha5.start", Rows.laid_custumal_sha5_start), ("custumal/sha5.rounds", Rows.laid_custumal_sha5_rounds)] [.wider, .data, .data, .data, .data, .data, .wider, .data, .data, .data, .data] true :=
  Program.laidByTextLater.sub seatTie3 ["custumal/field.modulus", "custumal/field.imaginary", "custumal/edwards.curve", "custumal/edwards.double", "custumal/edwards.baseX", "custumal/edwards.baseY", "custumal/scalar.order", "custumal/sha2.start", "custumal/sha2.rounds", "custumal/sha5.start", "custumal/sha5.rounds"] (by kernel_rfl) (by kernel_rfl)
theorem custumalSigns_row_tie : Rows.custumalSignsRow.laidByTextAt .later Tryd.pinned [.wider, .data, .data, .data, .data, .data, .wider, .data, .data, .data, .data] true :=
  OpenClaim.laidByTextAt_later rfl rfl tie4 noOwnUnsafe
theorem custumalIndex_row_tie : Rows.custumalIndexRow.laidByTextAt .later Tryd.pinned [.wider, .data, .data, .data, .data, .data, .wider, .data, .data, .data, .data] true :=
  OpenClaim.laidByTextAt_later rfl rfl tie4 noOwnUnsafe
theorem signMakesUpto_row_tie : Rows.signMakesUptoRow.laidByTextAt .later Tryd.pinned [.data, .data, .wider, .data, .data, .data, .wider, .data, .data] true :=
  OpenClaim.laidByTextAt_later rfl rfl tie noOwnUnsafe
theorem signChecksUpto_row_tie : Rows.signChecksUptoRow.laidByTextAt .later Tryd.pinned [.data, .data, .wider, .data, .data, .data, .data, .data, .wider, .data, .data] true :=
  OpenClaim.laidByTextAt_later rfl rfl tie2 noOwnUnsafe
theorem signBackUpto_row_tie : Rows.signBackUptoRow.laidByTextAt .later Tryd.pinned [.wider, .data, .data, .data, .data, .data, .wider, .data, .data] true :=
  OpenClaim.laidByTextAt_later rfl rfl tie3 noOwnUnsafe
theorem signBentUpto_row_tie : Rows.signBentUptoRow.laidByTextAt .later Tryd.pinned [.data, .data, .wider, .data, .data, .data, .data, .data, .wider, .data, .data] true :=
  OpenClaim.laidByTextAt_later rfl rfl tie2 noOwnUnsafe
theorem signTwinsUpto_row_tie : Rows.signTwinsUptoRow.laidByTextAt .later Tryd.pinned [.wider, .data, .data, .data, .data, .data, .wider, .data, .data] true :=
  OpenClaim.laidByTextAt_later rfl rfl tie3 noOwnUnsafe
theorem vrfProvesUpto_row_tie : Rows.vrfProvesUptoRow.laidByTextAt .later Tryd.pinned [.data, .data, .wider, .data, .data, .data, .data, .data, .wider, .data, .data] true :=
  OpenClaim.laidByTextAt_later rfl rfl tie2 noOwnUnsafe
theorem vrfBackUpto_row_tie : Rows.vrfBackUptoRow.laidByTextAt .later Tryd.pinned [.wider, .data, .data, .data, .data, .data, .wider, .data, .data] true :=
  OpenClaim.laidByTextAt_later rfl rfl tie3 noOwnUnsafe
theorem vrfBentUpto_row_tie : Rows.vrfBentUptoRow.laidByTextAt .later Tryd.pinned [.data, .data, .wider, .data, .data, .data, .data, .data, .wider, .data, .data] true :=
  OpenClaim.laidByTextAt_later rfl rfl tie2 noOwnUnsafe
theorem vrfNeutralUpto_row_tie : Rows.vrfNeutralUptoRow.laidByTextAt .later Tryd.pinned [.wider, .data, .data, .data, .data, .data, .wider, .data, .data] true :=
  OpenClaim.laidByTextAt_later rfl rfl tie3 noOwnUnsafe
theorem vrfChecksUpto_row_tie : Rows.vrfChecksUptoRow.laidByTextAt .later Tryd.pinned [.data, .data, .wider, .data, .data, .data, .data, .data, .wider, .data, .data] true :=
  OpenClaim.laidByTextAt_later rfl rfl tie2 noOwnUnsafe
theorem custumalSignsUpto_row_tie : Rows.custumalSignsUptoRow.laidByTextAt .later Tryd.pinned [.wider, .data, .data, .data, .data, .data, .wider, .data, .data, .data, .data] true :=
  OpenClaim.laidByTextAt_later rfl rfl tie4 noOwnUnsafe
theorem custumalIndexUpto_row_tie : Rows.custumalIndexUptoRow.laidByTextAt .later Tryd.pinned [.wider, .data, .data, .data, .data, .data, .wider, .data, .data, .data, .data] true :=
  OpenClaim.laidByTextAt_later rfl rfl tie4 noOwnUnsafe
end Go.Proofs.YtefpoollmbmkfaaDoor
