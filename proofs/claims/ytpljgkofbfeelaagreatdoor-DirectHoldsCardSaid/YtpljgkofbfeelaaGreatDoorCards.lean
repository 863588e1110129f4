/-
  DERIVED. GIVEN WITH THE SEED: THE CARDS: each row of YtpljgkofbfeelaaGreatDoorRows.lean that lists a variable, with what it lists TIED to the program's text (the seventh form; the later family's looks); each row that meets fmt, with fmt's text TOLD by the authors' own Lean function (tested against real Go, not proved from fmt's source: count such statements apart). THE CARD IS WHAT COUNTS. Prove the row's statement (the work); the ties are given (YtpljgkofbfeelaaGreatDoorTie.lean); close each card by the builder's one call (the guide's Derived/Test/ToyasCard.lean, 'card_holds'). Laid BY PROGRAM, IN A SANDBOX (cutbox-door.mjs). By AI agents, Wed Nov 11 2026. No macro, syntax, notation, axiom, sorry.
-/
import Derived.Test.YtpljgkofbfeelaaGreatDoorRows
import GoSem.ClaimSeven
namespace Go.Proofs.YtpljgkofbfeelaaGreatDoor
namespace Rows

/-- THE TIED CARD OF 'custumallaw19.DirectActs'. -/
def directActsCard : Claim7 := { stood := { row := directActsRow, standIns := [], harness := (true, "67ab3881e6971580c509c7a179291e9dcc86c5aeb9c54a7eb42f4b1daff0a49e"), looks := false }, kinds := [], alts := [], laidByText := true, laidKinds := [.data, .data, .data, .data, .wider, .data, .data, .data, .data, .data, .wider, .data, .data, .data, .data], laidTests := true, laidLooks := .later }
def DirectActsCardSaid : Prop := Claim7.holds Tryz.pinned (.plain (OpenSpec.ofChange directActsSpec)) directActsCard

/-- THE TIED CARD OF 'custumallaw19.DirectHolds'. -/
def directHoldsCard : Claim7 := { stood := { row := directHoldsRow, standIns := [], harness := (true, "67ab3881e6971580c509c7a179291e9dcc86c5aeb9c54a7eb42f4b1daff0a49e"), looks := false }, kinds := [], alts := [], laidByText := true, laidKinds := [.data, .data, .wider, .data, .data, .data, .data, .data, .wider, .data, .data, .data, .data], laidTests := true, laidLooks := .later }
def DirectHoldsCardSaid : Prop := Claim7.holds Tryz.pinned (.plain (OpenSpec.ofChange directHoldsSpec)) directHoldsCard

/-- THE SECOND FORM's CARD OF 'custumallaw19.DirectActs'. -/
def directActsUptoCard : Claim7 := { stood := { row := directActsUptoRow, standIns := [], harness := (true, "67ab3881e6971580c509c7a179291e9dcc86c5aeb9c54a7eb42f4b1daff0a49e"), looks := false }, kinds := [], alts := [], laidByText := true, laidKinds := [.data, .data, .data, .data, .wider, .data, .data, .data, .data, .data, .wider, .data, .data, .data, .data], laidTests := true, laidLooks := .later }
def DirectActsUptoCardSaid : Prop := Claim7.holds Tryz.pinned (.plain (OpenSpec.upto directActsSpec)) directActsUptoCard

/-- THE SECOND FORM's CARD OF 'custumallaw19.DirectHolds'. -/
def directHoldsUptoCard : Claim7 := { stood := { row := directHoldsUptoRow, standIns := [], harness := (true, "67ab3881e6971580c509c7a179291e9dcc86c5aeb9c54a7eb42f4b1daff0a49e"), looks := false }, kinds := [], alts := [], laidByText := true, laidKinds := [.data, .data, .wider, .data, .data, .data, .data, .data, .wider, .data, .data, .data, .data], laidTests := true, laidLooks := .later }
def DirectHoldsUptoCardSaid : Prop := Claim7.holds Tryz.pinned (.plain (OpenSpec.upto directHoldsSpec)) directHoldsUptoCard
end Rows
end Go.Proofs.YtpljgkofbfeelaaGreatDoor
