/-
  DERIVED. GIVEN WITH THE SEED: THE CARDS: each row of YtefpoollmbmkfaaDoorRows.lean that lists a variable, with what it lists TIED to the program's text (the seventh form; the later family's looks); each row that meets fmt, with fmt's text TOLD by the authors' own Lean function (tested against real Go, not proved from fmt's source: count such statements apart). THE CARD IS WHAT COUNTS. Prove the row's statement (the work); the ties are given (YtefpoollmbmkfaaDoorTie.lean); close each card by the builder's one call (the guide's Derived/Test/ToyasCard.lean, 'card_holds'). Laid BY PROGRAM, IN A SANDBOX (cutbox-door.mjs). By AI agents, Wed Nov 11 2026. No macro, syntax, notation, axiom, sorry.
-/
import Derived.Test.YtefpoollmbmkfaaDoorRows
import GoSem.ClaimSeven
namespace Go.Proofs.YtefpoollmbmkfaaDoor
namespace Rows

/-- THE TIED CARD OF 'custumallaw08.SignMakes'. -/
def signMakesCard : Claim7 := { stood := { row := signMakesRow, standIns := [], harness := (true, "4aabf59c3885cc54e0b2e4261c431e82e8aecf9877a542c986ec29e068016e40"), looks := false }, kinds := [], alts := [], laidByText := true, laidKinds := [.data, .data, .wider, .data, .data, .data, .wider, .data, .data], laidTests := true, laidLooks := .later }
def SignMakesCardSaid : Prop := Claim7.holds Tryd.pinned (.plain (OpenSpec.ofChange signMakesSpec)) signMakesCard

/-- THE TIED CARD OF 'custumallaw08.SignChecks'. -/
def signChecksCard : Claim7 := { stood := { row := signChecksRow, standIns := [], harness := (true, "4aabf59c3885cc54e0b2e4261c431e82e8aecf9877a542c986ec29e068016e40"), looks := false }, kinds := [], alts := [], laidByText := true, laidKinds := [.data, .data, .wider, .data, .data, .data, .data, .data, .wider, .data, .data], laidTests := true, laidLooks := .later }
def SignChecksCardSaid : Prop := Claim7.holds Tryd.pinned (.plain (OpenSpec.ofChange signChecksSpec)) signChecksCard

/-- THE TIED CARD OF 'custumallaw08.SignBack'. -/
def signBackCard : Claim7 := { stood := { row := signBackRow, standIns := [], harness := (true, "4aabf59c3885cc54e0b2e4261c431e82e8aecf9877a542c986ec29e068016e40"), looks := false }, kinds := [], alts := [], laidByText := true, laidKinds := [.wider, .data, .data, .data, .data, .data, .wider, .data, .data], laidTests := true, laidLooks := .later }
def SignBackCardSaid : Prop := Claim7.holds Tryd.pinned (.plain (OpenSpec.ofChange signBackSpec)) signBackCard

/-- THE TIED CARD OF 'custumallaw08.SignBent'. -/
def signBentCard : Claim7 := { stood := { row := signBentRow, standIns := [], harness := (true, "4aabf59c3885cc54e0b2e4261c431e82e8aecf9877a542c986ec29e068016e40"), looks := false }, kinds := [], alts := [], laidByText := true, laidKinds := [.data, .data, .wider, .data, .data, .data, .data, .data, .wider, .data, .data], laidTests := true, laidLooks := .later }
def SignBentCardSaid : Prop := Claim7.holds Tryd.pinned (.plain (OpenSpec.ofChange signBentSpec)) signBentCard

/-- THE TIED CARD OF 'custumallaw08.SignTwins'. -/
def signTwinsCard : Claim7 := { stood := { row := signTwinsRow, standIns := [], harness := (true, "4aabf59c3885cc54e0b2e4261c431e82e8aecf9877a542c986ec29e068016e40"), looks := false }, kinds := [], alts := [], laidByText := true, laidKinds := [.wider, .data, .data, .data, .data, .data, .wider, .data, .data], laidTests := true, laidLooks := .later }
def SignTwinsCardSaid : Prop := Claim7.holds Tryd.pinned (.plain (OpenSpec.ofChange signTwinsSpec)) signTwinsCard

/-- THE TIED CARD OF 'custumallaw09.VrfProves'. -/
def vrfProvesCard : Claim7 := { stood := { row := vrfProvesRow, standIns := [], harness := (true, "4aabf59c3885cc54e0b2e4261c431e82e8aecf9877a542c986ec29e068016e40"), looks := false }, kinds := [], alts := [], laidByText := true, laidKinds := [.data, .data, .wider, .data, .data, .data, .data, .data, .wider, .data, .data], laidTests := true, laidLooks := .later }
def VrfProvesCardSaid : Prop := Claim7.holds Tryd.pinned (.plain (OpenSpec.ofChange vrfProvesSpec)) vrfProvesCard

/-- THE TIED CARD OF 'custumallaw09.VrfBack'. -/
def vrfBackCard : Claim7 := { stood := { row := vrfBackRow, standIns := [], harness := (true, "4aabf59c3885cc54e0b2e4261c431e82e8aecf9877a542c986ec29e068016e40"), looks := false }, kinds := [], alts := [], laidByText := true, laidKinds := [.wider, .data, .data, .data, .data, .data, .wider, .data, .data], laidTests := true, laidLooks := .later }
def VrfBackCardSaid : Prop := Claim7.holds Tryd.pinned (.plain (OpenSpec.ofChange vrfBackSpec)) vrfBackCard

/-- THE TIED CARD OF 'custumallaw09.VrfBent'. -/
def vrfBentCard : Claim7 := { stood := { row := vrfBentRow, standIns := [], harness := (true, "4aabf59c3885cc54e0b2e4261c431e82e8aecf9877a542c986ec29e068016e40"), looks := false }, kinds := [], alts := [], laidByText := true, laidKinds := [.data, .data, .wider, .data, .data, .data, .data, .data, .wider, .data, .data], laidTests := true, laidLooks := .later }
def VrfBentCardSaid : Prop := Claim7.holds Tryd.pinned (.plain (OpenSpec.ofChange vrfBentSpec)) vrfBentCard

/-- THE TIED CARD OF 'custumallaw09.VrfNeutral'. -/
def vrfNeutralCard : Claim7 := { stood := { row := vrfNeutralRow, standIns := [], harness := (true, "4aabf59c3885cc54e0b2e4261c431e82e8aecf9877a542c986ec29e068016e40"), looks := false }, kinds := [], alts := [], laidByText := true, laidKinds := [.wider, .data, .data, .data, .data, .data, .wider, .data, .data], laidTests := true, laidLooks := .later }
def VrfNeutralCardSaid : Prop := Claim7.holds Tryd.pinned (.plain (OpenSpec.ofChange vrfNeutralSpec)) vrfNeutralCard

/-- THE TIED CARD OF 'custumallaw09.VrfChecks'. -/
def vrfChecksCard : Claim7 := { stood := { row := vrfChecksRow, standIns := [], harness := (true, "4aabf59c3885cc54e0b2e4261c431e82e8aecf9877a542c986ec29e068016e40"), looks := false }, kinds := [], alts := [], laidByText := true, laidKinds := [.data, .data, .wider, .data, .data, .data, .data, .data, .wider, .data, .data], laidTests := true, laidLooks := .later }
def VrfChecksCardSaid : Prop := Claim7.holds Tryd.pinned (.plain (OpenSpec.ofChange vrfChecksSpec)) vrfChecksCard

/-- THE TIED CARD OF 'custumaltop.CustumalSigns'. -/
def custumalSignsCard : Claim7 := { stood := { row := custumalSignsRow, standIns := [], harness := (true, "4aabf59c3885cc54e0b2e4261c431e82e8aecf9877a542c986ec29e068016e40"), looks := false }, kinds := [], alts := [], laidByText := true, laidKinds := [.wider, .data, .data, .data, .data, .data, .wider, .data, .data, .data, .data], laidTests := true, laidLooks := .later }
def CustumalSignsCardSaid : Prop := Claim7.holds Tryd.pinned (.plain (OpenSpec.ofChange custumalSignsSpec)) custumalSignsCard

/-- THE TIED CARD OF 'custumaltop.CustumalIndex'. -/
def custumalIndexCard : Claim7 := { stood := { row := custumalIndexRow, standIns := [], harness := (true, "4aabf59c3885cc54e0b2e4261c431e82e8aecf9877a542c986ec29e068016e40"), looks := false }, kinds := [], alts := [], laidByText := true, laidKinds := [.wider, .data, .data, .data, .data, .data, .wider, .data, .data, .data, .data], laidTests := true, laidLooks := .later }
def CustumalIndexCardSaid : Prop := Claim7.holds Tryd.pinned (.plain (OpenSpec.ofChange custumalIndexSpec)) custumalIndexCard

/-- THE SECOND FORM's CARD OF 'custumallaw08.SignMakes'. -/
def signMakesUptoCard : Claim7 := { stood := { row := signMakesUptoRow, standIns := [], harness := (true, "4aabf59c3885cc54e0b2e4261c431e82e8aecf9877a542c986ec29e068016e40"), looks := false }, kinds := [], alts := [], laidByText := true, laidKinds := [.data, .data, .wider, .data, .data, .data, .wider, .data, .data], laidTests := true, laidLooks := .later }
def SignMakesUptoCardSaid : Prop := Claim7.holds Tryd.pinned (.plain (OpenSpec.upto signMakesSpec)) signMakesUptoCard

/-- THE SECOND FORM's CARD OF 'custumallaw08.SignChecks'. -/
def signChecksUptoCard : Claim7 := { stood := { row := signChecksUptoRow, standIns := [], harness := (true, "4aabf59c3885cc54e0b2e4261c431e82e8aecf9877a542c986ec29e068016e40"), looks := false }, kinds := [], alts := [], laidByText := true, laidKinds := [.data, .data, .wider, .data, .data, .data, .data, .data, .wider, .data, .data], laidTests := true, laidLooks := .later }
def SignChecksUptoCardSaid : Prop := Claim7.holds Tryd.pinned (.plain (OpenSpec.upto signChecksSpec)) signChecksUptoCard

/-- THE SECOND FORM's CARD OF 'custumallaw08.SignBack'. -/
def signBackUptoCard : Claim7 := { stood := { row := signBackUptoRow, standIns := [], harness := (true, "4aabf59c3885cc54e0b2e4261c431e82e8aecf9877a542c986ec29e068016e40"), looks := false }, kinds := [], alts := [], laidByText := true, laidKinds := [.wider, .data, .data, .data, .data, .data, .wider, .data, .data], laidTests := true, laidLooks := .later }
def SignBackUptoCardSaid : Prop := Claim7.holds Tryd.pinned (.plain (OpenSpec.upto signBackSpec)) signBackUptoCard

/-- THE SECOND FORM's CARD OF 'custumallaw08.SignBent'. -/
def signBentUptoCard : Claim7 := { stood := { row := signBentUptoRow, standIns := [], harness := (true, "4aabf59c3885cc54e0b2e4261c431e82e8aecf9877a542c986ec29e068016e40"), looks := false }, kinds := [], alts := [], laidByText := true, laidKinds := [.data, .data, .wider, .data, .data, .data, .data, .data, .wider, .data, .data], laidTests := true, laidLooks := .later }
def SignBentUptoCardSaid : Prop := Claim7.holds Tryd.pinned (.plain (OpenSpec.upto signBentSpec)) signBentUptoCard

/-- THE SECOND FORM's CARD OF 'custumallaw08.SignTwins'. -/
def signTwinsUptoCard : Claim7 := { stood := { row := signTwinsUptoRow, standIns := [], harness := (true, "4aabf59c3885cc54e0b2e4261c431e82e8aecf9877a542c986ec29e068016e40"), looks := false }, kinds := [], alts := [], laidByText := true, laidKinds := [.wider, .data, .data, .data, .data, .data, .wider, .data, .data], laidTests := true, laidLooks := .later }
def SignTwinsUptoCardSaid : Prop := Claim7.holds Tryd.pinned (.plain (OpenSpec.upto signTwinsSpec)) signTwinsUptoCard

/-- THE SECOND FORM's CARD OF 'custumallaw09.VrfProves'. -/
def vrfProvesUptoCard : Claim7 := { stood := { row := vrfProvesUptoRow, standIns := [], harness := (true, "4aabf59c3885cc54e0b2e4261c431e82e8aecf9877a542c986ec29e068016e40"), looks := false }, kinds := [], alts := [], laidByText := true, laidKinds := [.data, .data, .wider, .data, .data, .data, .data, .data, .wider, .data, .data], laidTests := true, laidLooks := .later }
def VrfProvesUptoCardSaid : Prop := Claim7.holds Tryd.pinned (.plain (OpenSpec.upto vrfProvesSpec)) vrfProvesUptoCard

/-- THE SECOND FORM's CARD OF 'custumallaw09.VrfBack'. -/
def vrfBackUptoCard : Claim7 := { stood := { row := vrfBackUptoRow, standIns := [], harness := (true, "4aabf59c3885cc54e0b2e4261c431e82e8aecf9877a542c986ec29e068016e40"), looks := false }, kinds := [], alts := [], laidByText := true, laidKinds := [.wider, .data, .data, .data, .data, .data, .wider, .data, .data], laidTests := true, laidLooks := .later }
def VrfBackUptoCardSaid : Prop := Claim7.holds Tryd.pinned (.plain (OpenSpec.upto vrfBackSpec)) vrfBackUptoCard

/-- THE SECOND FORM's CARD OF 'custumallaw09.VrfBent'. -/
def vrfBentUptoCard : Claim7 := { stood := { row := vrfBentUptoRow, standIns := [], harness := (true, "4aabf59c3885cc54e0b2e4261c431e82e8aecf9877a542c986ec29e068016e40"), looks := false }, kinds := [], alts := [], laidByText := true, laidKinds := [.data, .data, .wider, .data, .data, .data, .data, .data, .wider, .data, .data], laidTests := true, laidLooks := .later }
def VrfBentUptoCardSaid : Prop := Claim7.holds Tryd.pinned (.plain (OpenSpec.upto vrfBentSpec)) vrfBentUptoCard

/-- THE SECOND FORM's CARD OF 'custumallaw09.VrfNeutral'. -/
def vrfNeutralUptoCard : Claim7 := { stood := { row := vrfNeutralUptoRow, standIns := [], harness := (true, "4aabf59c3885cc54e0b2e4261c431e82e8aecf9877a542c986ec29e068016e40"), looks := false }, kinds := [], alts := [], laidByText := true, laidKinds := [.wider, .data, .data, .data, .data, .data, .wider, .data, .data], laidTests := true, laidLooks := .later }
def VrfNeutralUptoCardSaid : Prop := Claim7.holds Tryd.pinned (.plain (OpenSpec.upto vrfNeutralSpec)) vrfNeutralUptoCard

/-- THE SECOND FORM's CARD OF 'custumallaw09.VrfChecks'. -/
def vrfChecksUptoCard : Claim7 := { stood := { row := vrfChecksUptoRow, standIns := [], harness := (true, "4aabf59c3885cc54e0b2e4261c431e82e8aecf9877a542c986ec29e068016e40"), looks := false }, kinds := [], alts := [], laidByText := true, laidKinds := [.data, .data, .wider, .data, .data, .data, .data, .data, .wider, .data, .data], laidTests := true, laidLooks := .later }
def VrfChecksUptoCardSaid : Prop := Claim7.holds Tryd.pinned (.plain (OpenSpec.upto vrfChecksSpec)) vrfChecksUptoCard

/-- THE SECOND FORM's CARD OF 'custumaltop.CustumalSigns'. -/
def custumalSignsUptoCard : Claim7 := { stood := { row := custumalSignsUptoRow, standIns := [], harness := (true, "4aabf59c3885cc54e0b2e4261c431e82e8aecf9877a542c986ec29e068016e40"), looks := false }, kinds := [], alts := [], laidByText := true, laidKinds := [.wider, .data, .data, .data, .data, .data, .wider, .data, .data, .data, .data], laidTests := true, laidLooks := .later }
def CustumalSignsUptoCardSaid : Prop := Claim7.holds Tryd.pinned (.plain (OpenSpec.upto custumalSignsSpec)) custumalSignsUptoCard

/-- THE SECOND FORM's CARD OF 'custumaltop.CustumalIndex'. -/
def custumalIndexUptoCard : Claim7 := { stood := { row := custumalIndexUptoRow, standIns := [], harness := (true, "4aabf59c3885cc54e0b2e4261c431e82e8aecf9877a542c986ec29e068016e40"), looks := false }, kinds := [], alts := [], laidByText := true, laidKinds := [.wider, .data, .data, .data, .data, .data, .wider, .data, .data, .data, .data], laidTests := true, laidLooks := .later }
def CustumalIndexUptoCardSaid : Prop := Claim7.holds Tryd.pinned (.plain (OpenSpec.upto custumalIndexSpec)) custumalIndexUptoCard
end Rows
end Go.Proofs.YtefpoollmbmkfaaDoor
