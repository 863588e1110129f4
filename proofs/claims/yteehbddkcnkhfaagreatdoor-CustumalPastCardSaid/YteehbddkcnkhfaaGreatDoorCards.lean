/-
  DERIVED. GIVEN WITH THE SEED: THE CARDS: each row of YteehbddkcnkhfaaGreatDoorRows.lean that lists a variable, with what it lists TIED to the program's text (the seventh form; the later family's looks); each row that meets fmt, with fmt's text TOLD by the authors' own Lean function (tested against real Go, not proved from fmt's source: count such statements apart). THE CARD IS WHAT COUNTS. Prove the row's statement (the work); the ties are given (YteehbddkcnkhfaaGreatDoorTie.lean); close each card by the builder's one call (the guide's Derived/Test/ToyasCard.lean, 'card_holds'). Laid BY PROGRAM, IN A SANDBOX (cutbox-door.mjs). By AI agents, Wed Nov 11 2026. No macro, syntax, notation, axiom, sorry.
-/
import Derived.Test.YteehbddkcnkhfaaGreatDoorRows
import GoSem.ClaimSeven
namespace Go.Proofs.YteehbddkcnkhfaaGreatDoor
namespace Rows

/-- THE TIED CARD OF 'custumallaw19.DirectStays'. -/
def directStaysCard : Claim7 := { stood := { row := directStaysRow, standIns := [], harness := (true, "7c865b7182fbb565514dd742317167ffeb22210efbe96469e2fb11b3de659d3d"), looks := false }, kinds := [], alts := [], laidByText := true, laidKinds := [.data, .data, .wider, .data, .data, .data, .data, .data, .wider, .data, .data, .data, .data], laidTests := true, laidLooks := .later }
def DirectStaysCardSaid : Prop := Claim7.holds Tryz.pinned (.plain (OpenSpec.ofChange directStaysSpec)) directStaysCard

/-- THE TIED CARD OF 'custumallaw19.DirectActs'. -/
def directActsCard : Claim7 := { stood := { row := directActsRow, standIns := [], harness := (true, "7c865b7182fbb565514dd742317167ffeb22210efbe96469e2fb11b3de659d3d"), looks := false }, kinds := [], alts := [], laidByText := true, laidKinds := [.data, .data, .data, .data, .wider, .data, .data, .data, .data, .data, .wider, .data, .data, .data, .data], laidTests := true, laidLooks := .later }
def DirectActsCardSaid : Prop := Claim7.holds Tryz.pinned (.plain (OpenSpec.ofChange directActsSpec)) directActsCard

/-- THE TIED CARD OF 'custumallaw19.DirectPuts'. -/
def directPutsCard : Claim7 := { stood := { row := directPutsRow, standIns := [], harness := (true, "7c865b7182fbb565514dd742317167ffeb22210efbe96469e2fb11b3de659d3d"), looks := false }, kinds := [], alts := [], laidByText := true, laidKinds := [.data, .data, .wider, .data, .data, .data, .data, .data, .wider, .data, .data, .data, .data], laidTests := true, laidLooks := .later }
def DirectPutsCardSaid : Prop := Claim7.holds Tryz.pinned (.plain (OpenSpec.ofChange directPutsSpec)) directPutsCard

/-- THE TIED CARD OF 'custumallaw19.DirectHolds'. -/
def directHoldsCard : Claim7 := { stood := { row := directHoldsRow, standIns := [], harness := (true, "7c865b7182fbb565514dd742317167ffeb22210efbe96469e2fb11b3de659d3d"), looks := false }, kinds := [], alts := [], laidByText := true, laidKinds := [.data, .data, .wider, .data, .data, .data, .data, .data, .wider, .data, .data, .data, .data], laidTests := true, laidLooks := .later }
def DirectHoldsCardSaid : Prop := Claim7.holds Tryz.pinned (.plain (OpenSpec.ofChange directHoldsSpec)) directHoldsCard

/-- THE TIED CARD OF 'custumaltop.CustumalPast'. -/
def custumalPastCard : Claim7 := { stood := { row := custumalPastRow, standIns := [], harness := (true, "7c865b7182fbb565514dd742317167ffeb22210efbe96469e2fb11b3de659d3d"), looks := false }, kinds := [], alts := [], laidByText := true, laidKinds := [.wider, .data, .data, .data, .data, .data, .wider, .data, .data, .data, .data], laidTests := true, laidLooks := .later }
def CustumalPastCardSaid : Prop := Claim7.holds Tryz.pinned (.plain (OpenSpec.ofChange custumalPastSpec)) custumalPastCard

/-- THE SECOND FORM's CARD OF 'custumallaw19.DirectStays'. -/
def directStaysUptoCard : Claim7 := { stood := { row := directStaysUptoRow, standIns := [], harness := (true, "7c865b7182fbb565514dd742317167ffeb22210efbe96469e2fb11b3de659d3d"), looks := false }, kinds := [], alts := [], laidByText := true, laidKinds := [.data, .data, .wider, .data, .data, .data, .data, .data, .wider, .data, .data, .data, .data], laidTests := true, laidLooks := .later }
def DirectStaysUptoCardSaid : Prop := Claim7.holds Tryz.pinned (.plain (OpenSpec.upto directStaysSpec)) directStaysUptoCard

/-- THE SECOND FORM's CARD OF 'custumallaw19.DirectActs'. -/
def directActsUptoCard : Claim7 := { stood := { row := directActsUptoRow, standIns := [], harness := (true, "7c865b7182fbb565514dd742317167ffeb22210efbe96469e2fb11b3de659d3d"), looks := false }, kinds := [], alts := [], laidByText := true, laidKinds := [.data, .data, .data, .data, .wider, .data, .data, .data, .data, .data, .wider, .data, .data, .data, .data], laidTests := true, laidLooks := .later }
def DirectActsUptoCardSaid : Prop := Claim7.holds Tryz.pinned (.plain (OpenSpec.upto directActsSpec)) directActsUptoCard

/-- THE SECOND FORM's CARD OF 'custumallaw19.DirectPuts'. -/
def directPutsUptoCard : Claim7 := { stood := { row := directPutsUptoRow, standIns := [], harness := (true, "7c865b7182fbb565514dd742317167ffeb22210efbe96469e2fb11b3de659d3d"), looks := false }, kinds := [], alts := [], laidByText := true, laidKinds := [.data, .data, .wider, .data, .data, .data, .data, .data, .wider, .data, .data, .data, .data], laidTests := true, laidLooks := .later }
def DirectPutsUptoCardSaid : Prop := Claim7.holds Tryz.pinned (.plain (OpenSpec.upto directPutsSpec)) directPutsUptoCard

/-- THE SECOND FORM's CARD OF 'custumallaw19.DirectHolds'. -/
def directHoldsUptoCard : Claim7 := { stood := { row := directHoldsUptoRow, standIns := [], harness := (true, "7c865b7182fbb565514dd742317167ffeb22210efbe96469e2fb11b3de659d3d"), looks := false }, kinds := [], alts := [], laidByText := true, laidKinds := [.data, .data, .wider, .data, .data, .data, .data, .data, .wider, .data, .data, .data, .data], laidTests := true, laidLooks := .later }
def DirectHoldsUptoCardSaid : Prop := Claim7.holds Tryz.pinned (.plain (OpenSpec.upto directHoldsSpec)) directHoldsUptoCard

/-- THE SECOND FORM's CARD OF 'custumaltop.CustumalPast'. -/
def custumalPastUptoCard : Claim7 := { stood := { row := custumalPastUptoRow, standIns := [], harness := (true, "7c865b7182fbb565514dd742317167ffeb22210efbe96469e2fb11b3de659d3d"), looks := false }, kinds := [], alts := [], laidByText := true, laidKinds := [.wider, .data, .data, .data, .data, .data, .wider, .data, .data, .data, .data], laidTests := true, laidLooks := .later }
def CustumalPastUptoCardSaid : Prop := Claim7.holds Tryz.pinned (.plain (OpenSpec.upto custumalPastSpec)) custumalPastUptoCard
end Rows
end Go.Proofs.YteehbddkcnkhfaaGreatDoor
