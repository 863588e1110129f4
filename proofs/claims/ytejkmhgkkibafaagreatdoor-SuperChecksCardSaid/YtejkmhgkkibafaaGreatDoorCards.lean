/-
  DERIVED. GIVEN WITH THE SEED: THE CARDS: each row of YtejkmhgkkibafaaGreatDoorRows.lean that lists a variable, with what it lists TIED to the program's text (the seventh form; the later family's looks); each row that meets fmt, with fmt's text TOLD by the authors' own Lean function (tested against real Go, not proved from fmt's source: count such statements apart). THE CARD IS WHAT COUNTS. Prove the row's statement (the work); the ties are given (YtejkmhgkkibafaaGreatDoorTie.lean); close each card by the builder's one call (the guide's Derived/Test/ToyasCard.lean, 'card_holds'). Laid BY PROGRAM, IN A SANDBOX (cutbox-door.mjs). By AI agents, Wed Nov 11 2026. No macro, syntax, notation, axiom, sorry.
-/
import Derived.Test.YtejkmhgkkibafaaGreatDoorRows
import GoSem.ClaimSeven
namespace Go.Proofs.YtejkmhgkkibafaaGreatDoor
namespace Rows

/-- THE TIED CARD OF 'custumallaw23.SuperTexts'. -/
def superTextsCard : Claim7 := { stood := { row := superTextsRow, standIns := [], harness := (true, "47234c2d8b54d6ef575dc2c44852f6a4c433dbd56654de69fb5bb5026805aa16"), looks := false }, kinds := [], alts := [], laidByText := true, laidKinds := [.data, .data, .wider, .data, .data, .data, .data, .data, .wider, .data, .data, .data, .data], laidTests := true, laidLooks := .later }
def SuperTextsCardSaid : Prop := Claim7.holds Tryz.pinned (.plain (OpenSpec.ofChange superTextsSpec)) superTextsCard

/-- THE TIED CARD OF 'custumallaw23.SuperProves'. -/
def superProvesCard : Claim7 := { stood := { row := superProvesRow, standIns := [], harness := (true, "47234c2d8b54d6ef575dc2c44852f6a4c433dbd56654de69fb5bb5026805aa16"), looks := false }, kinds := [], alts := [], laidByText := true, laidKinds := [.data, .data, .wider, .data, .data, .data, .data, .data, .wider, .data, .data, .data, .data], laidTests := true, laidLooks := .later }
def SuperProvesCardSaid : Prop := Claim7.holds Tryz.pinned (.plain (OpenSpec.ofChange superProvesSpec)) superProvesCard

/-- THE TIED CARD OF 'custumallaw23.SuperChecks'. -/
def superChecksCard : Claim7 := { stood := { row := superChecksRow, standIns := [], harness := (true, "47234c2d8b54d6ef575dc2c44852f6a4c433dbd56654de69fb5bb5026805aa16"), looks := false }, kinds := [], alts := [], laidByText := true, laidKinds := [.data, .data, .wider, .data, .data, .data, .data, .data, .wider, .data, .data, .data, .data], laidTests := true, laidLooks := .later }
def SuperChecksCardSaid : Prop := Claim7.holds Tryz.pinned (.plain (OpenSpec.ofChange superChecksSpec)) superChecksCard

/-- THE TIED CARD OF 'custumallaw23.SuperSeals'. -/
def superSealsCard : Claim7 := { stood := { row := superSealsRow, standIns := [], harness := (true, "47234c2d8b54d6ef575dc2c44852f6a4c433dbd56654de69fb5bb5026805aa16"), looks := false }, kinds := [], alts := [], laidByText := true, laidKinds := [.data, .data, .data, .data, .wider, .data, .data, .data, .data, .data, .wider, .data, .data, .data, .data], laidTests := true, laidLooks := .later }
def SuperSealsCardSaid : Prop := Claim7.holds Tryz.pinned (.plain (OpenSpec.ofChange superSealsSpec)) superSealsCard

/-- THE SECOND FORM's CARD OF 'custumallaw23.SuperTexts'. -/
def superTextsUptoCard : Claim7 := { stood := { row := superTextsUptoRow, standIns := [], harness := (true, "47234c2d8b54d6ef575dc2c44852f6a4c433dbd56654de69fb5bb5026805aa16"), looks := false }, kinds := [], alts := [], laidByText := true, laidKinds := [.data, .data, .wider, .data, .data, .data, .data, .data, .wider, .data, .data, .data, .data], laidTests := true, laidLooks := .later }
def SuperTextsUptoCardSaid : Prop := Claim7.holds Tryz.pinned (.plain (OpenSpec.upto superTextsSpec)) superTextsUptoCard

/-- THE SECOND FORM's CARD OF 'custumallaw23.SuperProves'. -/
def superProvesUptoCard : Claim7 := { stood := { row := superProvesUptoRow, standIns := [], harness := (true, "47234c2d8b54d6ef575dc2c44852f6a4c433dbd56654de69fb5bb5026805aa16"), looks := false }, kinds := [], alts := [], laidByText := true, laidKinds := [.data, .data, .wider, .data, .data, .data, .data, .data, .wider, .data, .data, .data, .data], laidTests := true, laidLooks := .later }
def SuperProvesUptoCardSaid : Prop := Claim7.holds Tryz.pinned (.plain (OpenSpec.upto superProvesSpec)) superProvesUptoCard

/-- THE SECOND FORM's CARD OF 'custumallaw23.SuperChecks'. -/
def superChecksUptoCard : Claim7 := { stood := { row := superChecksUptoRow, standIns := [], harness := (true, "47234c2d8b54d6ef575dc2c44852f6a4c433dbd56654de69fb5bb5026805aa16"), looks := false }, kinds := [], alts := [], laidByText := true, laidKinds := [.data, .data, .wider, .data, .data, .data, .data, .data, .wider, .data, .data, .data, .data], laidTests := true, laidLooks := .later }
def SuperChecksUptoCardSaid : Prop := Claim7.holds Tryz.pinned (.plain (OpenSpec.upto superChecksSpec)) superChecksUptoCard

/-- THE SECOND FORM's CARD OF 'custumallaw23.SuperSeals'. -/
def superSealsUptoCard : Claim7 := { stood := { row := superSealsUptoRow, standIns := [], harness := (true, "47234c2d8b54d6ef575dc2c44852f6a4c433dbd56654de69fb5bb5026805aa16"), looks := false }, kinds := [], alts := [], laidByText := true, laidKinds := [.data, .data, .data, .data, .wider, .data, .data, .data, .data, .data, .wider, .data, .data, .data, .data], laidTests := true, laidLooks := .later }
def SuperSealsUptoCardSaid : Prop := Claim7.holds Tryz.pinned (.plain (OpenSpec.upto superSealsSpec)) superSealsUptoCard
end Rows
end Go.Proofs.YtejkmhgkkibafaaGreatDoor
