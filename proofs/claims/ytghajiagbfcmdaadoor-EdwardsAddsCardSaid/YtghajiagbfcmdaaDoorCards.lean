/-
  DERIVED. GIVEN WITH THE SEED: THE CARDS: each row of YtghajiagbfcmdaaDoorRows.lean that lists a variable, with what it lists TIED to the program's text (the seventh form; the later family's looks); each row that meets fmt, with fmt's text TOLD by the authors' own Lean function (tested against real Go, not proved from fmt's source: count such statements apart). THE CARD IS WHAT COUNTS. Prove the row's statement (the work); the ties are given (YtghajiagbfcmdaaDoorTie.lean); close each card by the builder's one call (the guide's Derived/Test/ToyasCard.lean, 'card_holds'). Laid BY PROGRAM, IN A SANDBOX (cutbox-door.mjs). By AI agents, Wed Nov 11 2026. No macro, syntax, notation, axiom, sorry.
-/
import Derived.Test.YtghajiagbfcmdaaDoorRows
import GoSem.ClaimSeven
namespace Go.Proofs.YtghajiagbfcmdaaDoor
namespace Rows

/-- THE TIED CARD OF 'custumallaw07.EdwardsLaws'. -/
def edwardsLawsCard : Claim7 := { stood := { row := edwardsLawsRow, standIns := [], harness := (true, "b0d00dc0897e03f61fa08564402eb62ab0b4179c7e2bd4774cb989cbe9c30e73"), looks := false }, kinds := [], alts := [], laidByText := true, laidKinds := [.wider, .data, .data, .data], laidTests := true, laidLooks := .later }
def EdwardsLawsCardSaid : Prop := Claim7.holds Tryd.pinned (.plain (OpenSpec.ofChange edwardsLawsSpec)) edwardsLawsCard

/-- THE TIED CARD OF 'custumallaw07.EdwardsDecodes'. -/
def edwardsDecodesCard : Claim7 := { stood := { row := edwardsDecodesRow, standIns := [], harness := (true, "b0d00dc0897e03f61fa08564402eb62ab0b4179c7e2bd4774cb989cbe9c30e73"), looks := false }, kinds := [], alts := [], laidByText := true, laidKinds := [.wider, .data, .data, .data, .data], laidTests := true, laidLooks := .later }
def EdwardsDecodesCardSaid : Prop := Claim7.holds Tryd.pinned (.plain (OpenSpec.ofChange edwardsDecodesSpec)) edwardsDecodesCard

/-- THE TIED CARD OF 'custumallaw07.EdwardsTimes'. -/
def edwardsTimesCard : Claim7 := { stood := { row := edwardsTimesRow, standIns := [], harness := (true, "b0d00dc0897e03f61fa08564402eb62ab0b4179c7e2bd4774cb989cbe9c30e73"), looks := false }, kinds := [], alts := [], laidByText := true, laidKinds := [.wider, .data, .data, .data, .data, .data], laidTests := true, laidLooks := .later }
def EdwardsTimesCardSaid : Prop := Claim7.holds Tryd.pinned (.plain (OpenSpec.ofChange edwardsTimesSpec)) edwardsTimesCard

/-- THE TIED CARD OF 'custumallaw07.EdwardsAdds'. -/
def edwardsAddsCard : Claim7 := { stood := { row := edwardsAddsRow, standIns := [], harness := (true, "b0d00dc0897e03f61fa08564402eb62ab0b4179c7e2bd4774cb989cbe9c30e73"), looks := false }, kinds := [], alts := [], laidByText := true, laidKinds := [.wider, .data, .data, .data, .data, .data], laidTests := true, laidLooks := .later }
def EdwardsAddsCardSaid : Prop := Claim7.holds Tryd.pinned (.plain (OpenSpec.ofChange edwardsAddsSpec)) edwardsAddsCard

/-- THE SECOND FORM's CARD OF 'custumallaw07.EdwardsLaws'. -/
def edwardsLawsUptoCard : Claim7 := { stood := { row := edwardsLawsUptoRow, standIns := [], harness := (true, "b0d00dc0897e03f61fa08564402eb62ab0b4179c7e2bd4774cb989cbe9c30e73"), looks := false }, kinds := [], alts := [], laidByText := true, laidKinds := [.wider, .data, .data, .data], laidTests := true, laidLooks := .later }
def EdwardsLawsUptoCardSaid : Prop := Claim7.holds Tryd.pinned (.plain (OpenSpec.upto edwardsLawsSpec)) edwardsLawsUptoCard

/-- THE SECOND FORM's CARD OF 'custumallaw07.EdwardsDecodes'. -/
def edwardsDecodesUptoCard : Claim7 := { stood := { row := edwardsDecodesUptoRow, standIns := [], harness := (true, "b0d00dc0897e03f61fa08564402eb62ab0b4179c7e2bd4774cb989cbe9c30e73"), looks := false }, kinds := [], alts := [], laidByText := true, laidKinds := [.wider, .data, .data, .data, .data], laidTests := true, laidLooks := .later }
def EdwardsDecodesUptoCardSaid : Prop := Claim7.holds Tryd.pinned (.plain (OpenSpec.upto edwardsDecodesSpec)) edwardsDecodesUptoCard

/-- THE SECOND FORM's CARD OF 'custumallaw07.EdwardsTimes'. -/
def edwardsTimesUptoCard : Claim7 := { stood := { row := edwardsTimesUptoRow, standIns := [], harness := (true, "b0d00dc0897e03f61fa08564402eb62ab0b4179c7e2bd4774cb989cbe9c30e73"), looks := false }, kinds := [], alts := [], laidByText := true, laidKinds := [.wider, .data, .data, .data, .data, .data], laidTests := true, laidLooks := .later }
def EdwardsTimesUptoCardSaid : Prop := Claim7.holds Tryd.pinned (.plain (OpenSpec.upto edwardsTimesSpec)) edwardsTimesUptoCard

/-- THE SECOND FORM's CARD OF 'custumallaw07.EdwardsAdds'. -/
def edwardsAddsUptoCard : Claim7 := { stood := { row := edwardsAddsUptoRow, standIns := [], harness := (true, "b0d00dc0897e03f61fa08564402eb62ab0b4179c7e2bd4774cb989cbe9c30e73"), looks := false }, kinds := [], alts := [], laidByText := true, laidKinds := [.wider, .data, .data, .data, .data, .data], laidTests := true, laidLooks := .later }
def EdwardsAddsUptoCardSaid : Prop := Claim7.holds Tryd.pinned (.plain (OpenSpec.upto edwardsAddsSpec)) edwardsAddsUptoCard
end Rows
end Go.Proofs.YtghajiagbfcmdaaDoor
