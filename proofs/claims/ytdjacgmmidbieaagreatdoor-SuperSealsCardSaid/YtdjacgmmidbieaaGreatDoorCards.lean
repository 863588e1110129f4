/-
  DERIVED. GIVEN WITH THE SEED: THE CARDS: each row of YtdjacgmmidbieaaGreatDoorRows.lean that lists a variable, with what it lists TIED to the program's text (the seventh form; the later family's looks); each row that meets fmt, with fmt's text TOLD by the authors' own Lean function (tested against real Go, not proved from fmt's source: count such statements apart). THE CARD IS WHAT COUNTS. Prove the row's statement (the work); the ties are given (YtdjacgmmidbieaaGreatDoorTie.lean); close each card by the builder's one call (the guide's Derived/Test/ToyasCard.lean, 'card_holds'). Laid BY PROGRAM, IN A SANDBOX (cutbox-door.mjs). By AI agents, Wed Nov 11 2026. No macro, syntax, notation, axiom, sorry.
-/
import Derived.Test.YtdjacgmmidbieaaGreatDoorRows
import GoSem.ClaimSeven
namespace Go.Proofs.YtdjacgmmidbieaaGreatDoor
namespace Rows

/-- THE TIED CARD OF 'custumallaw23.SuperSeals'. -/
def superSealsCard : Claim7 := { stood := { row := superSealsRow, standIns := [], harness := (true, "1e046102f91649bc0383966f339e7065881d855b5ea86518e3caffac47761bce"), looks := false }, kinds := [], alts := [], laidByText := true, laidKinds := [.data, .data, .data, .data, .wider, .data, .data, .data, .data, .data, .wider, .data, .data, .data, .data], laidTests := true, laidLooks := .later }
def SuperSealsCardSaid : Prop := Claim7.holds Tryz.pinned (.plain (OpenSpec.ofChange superSealsSpec)) superSealsCard

/-- THE SECOND FORM's CARD OF 'custumallaw23.SuperSeals'. -/
def superSealsUptoCard : Claim7 := { stood := { row := superSealsUptoRow, standIns := [], harness := (true, "1e046102f91649bc0383966f339e7065881d855b5ea86518e3caffac47761bce"), looks := false }, kinds := [], alts := [], laidByText := true, laidKinds := [.data, .data, .data, .data, .wider, .data, .data, .data, .data, .data, .wider, .data, .data, .data, .data], laidTests := true, laidLooks := .later }
def SuperSealsUptoCardSaid : Prop := Claim7.holds Tryz.pinned (.plain (OpenSpec.upto superSealsSpec)) superSealsUptoCard
end Rows
end Go.Proofs.YtdjacgmmidbieaaGreatDoor
