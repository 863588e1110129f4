/-
  DERIVED. GIVEN WITH THE SEED: THE CARDS: each row of YtjikomnnhbbmaaaDoorRows.lean that lists a variable, with what it lists TIED to the program's text (the seventh form; the later family's looks); each row that meets fmt, with fmt's text TOLD by the authors' own Lean function (tested against real Go, not proved from fmt's source: count such statements apart). THE CARD IS WHAT COUNTS. Prove the row's statement (the work); the ties are given (YtjikomnnhbbmaaaDoorTie.lean); close each card by the builder's one call (the guide's Derived/Test/ToyasCard.lean, 'card_holds'). Laid BY PROGRAM, IN A SANDBOX (cutbox-door.mjs). By AI agents, Wed Nov 11 2026. No macro, syntax, notation, axiom, sorry.
-/
import Derived.Test.YtjikomnnhbbmaaaDoorRows
import GoSem.ClaimSeven
namespace Go.Proofs.YtjikomnnhbbmaaaDoor
namespace Rows

/-- THE TIED CARD OF 'custumallaw05.FieldPowers'. -/
def fieldPowersCard : Claim7 := { stood := { row := fieldPowersRow, standIns := [], harness := (true, "4a15465648f543c150a93e37510e6a2665c1d16bf6dc28247f49137b6062e528"), looks := false }, kinds := [], alts := [], laidByText := true, laidKinds := [.wider], laidTests := true, laidLooks := .later }
def FieldPowersCardSaid : Prop := Claim7.holds Tryd.pinned (.plain (OpenSpec.ofChange fieldPowersSpec)) fieldPowersCard

/-- THE TIED CARD OF 'custumallaw05.FieldSums'. -/
def fieldSumsCard : Claim7 := { stood := { row := fieldSumsRow, standIns := [], harness := (true, "4a15465648f543c150a93e37510e6a2665c1d16bf6dc28247f49137b6062e528"), looks := false }, kinds := [], alts := [], laidByText := true, laidKinds := [.wider], laidTests := true, laidLooks := .later }
def FieldSumsCardSaid : Prop := Claim7.holds Tryd.pinned (.plain (OpenSpec.ofChange fieldSumsSpec)) fieldSumsCard

/-- THE TIED CARD OF 'custumallaw05.FieldRoots'. -/
def fieldRootsCard : Claim7 := { stood := { row := fieldRootsRow, standIns := [], harness := (true, "4a15465648f543c150a93e37510e6a2665c1d16bf6dc28247f49137b6062e528"), looks := false }, kinds := [], alts := [], laidByText := true, laidKinds := [.wider, .data], laidTests := true, laidLooks := .later }
def FieldRootsCardSaid : Prop := Claim7.holds Tryd.pinned (.plain (OpenSpec.ofChange fieldRootsSpec)) fieldRootsCard

/-- THE TIED CARD OF 'custumallaw05.FieldLaws'. -/
def fieldLawsCard : Claim7 := { stood := { row := fieldLawsRow, standIns := [], harness := (true, "4a15465648f543c150a93e37510e6a2665c1d16bf6dc28247f49137b6062e528"), looks := false }, kinds := [], alts := [], laidByText := true, laidKinds := [.wider, .data], laidTests := true, laidLooks := .later }
def FieldLawsCardSaid : Prop := Claim7.holds Tryd.pinned (.plain (OpenSpec.ofChange fieldLawsSpec)) fieldLawsCard

/-- THE TIED CARD OF 'custumallaw05.FieldBytes'. -/
def fieldBytesCard : Claim7 := { stood := { row := fieldBytesRow, standIns := [], harness := (true, "4a15465648f543c150a93e37510e6a2665c1d16bf6dc28247f49137b6062e528"), looks := false }, kinds := [], alts := [], laidByText := true, laidKinds := [.wider], laidTests := true, laidLooks := .later }
def FieldBytesCardSaid : Prop := Claim7.holds Tryd.pinned (.plain (OpenSpec.ofChange fieldBytesSpec)) fieldBytesCard

/-- THE SECOND FORM's CARD OF 'custumallaw05.FieldPowers'. -/
def fieldPowersUptoCard : Claim7 := { stood := { row := fieldPowersUptoRow, standIns := [], harness := (true, "4a15465648f543c150a93e37510e6a2665c1d16bf6dc28247f49137b6062e528"), looks := false }, kinds := [], alts := [], laidByText := true, laidKinds := [.wider], laidTests := true, laidLooks := .later }
def FieldPowersUptoCardSaid : Prop := Claim7.holds Tryd.pinned (.plain (OpenSpec.upto fieldPowersSpec)) fieldPowersUptoCard

/-- THE SECOND FORM's CARD OF 'custumallaw05.FieldSums'. -/
def fieldSumsUptoCard : Claim7 := { stood := { row := fieldSumsUptoRow, standIns := [], harness := (true, "4a15465648f543c150a93e37510e6a2665c1d16bf6dc28247f49137b6062e528"), looks := false }, kinds := [], alts := [], laidByText := true, laidKinds := [.wider], laidTests := true, laidLooks := .later }
def FieldSumsUptoCardSaid : Prop := Claim7.holds Tryd.pinned (.plain (OpenSpec.upto fieldSumsSpec)) fieldSumsUptoCard

/-- THE SECOND FORM's CARD OF 'custumallaw05.FieldRoots'. -/
def fieldRootsUptoCard : Claim7 := { stood := { row := fieldRootsUptoRow, standIns := [], harness := (true, "4a15465648f543c150a93e37510e6a2665c1d16bf6dc28247f49137b6062e528"), looks := false }, kinds := [], alts := [], laidByText := true, laidKinds := [.wider, .data], laidTests := true, laidLooks := .later }
def FieldRootsUptoCardSaid : Prop := Claim7.holds Tryd.pinned (.plain (OpenSpec.upto fieldRootsSpec)) fieldRootsUptoCard

/-- THE SECOND FORM's CARD OF 'custumallaw05.FieldLaws'. -/
def fieldLawsUptoCard : Claim7 := { stood := { row := fieldLawsUptoRow, standIns := [], harness := (true, "4a15465648f543c150a93e37510e6a2665c1d16bf6dc28247f49137b6062e528"), looks := false }, kinds := [], alts := [], laidByText := true, laidKinds := [.wider, .data], laidTests := true, laidLooks := .later }
def FieldLawsUptoCardSaid : Prop := Claim7.holds Tryd.pinned (.plain (OpenSpec.upto fieldLawsSpec)) fieldLawsUptoCard

/-- THE SECOND FORM's CARD OF 'custumallaw05.FieldBytes'. -/
def fieldBytesUptoCard : Claim7 := { stood := { row := fieldBytesUptoRow, standIns := [], harness := (true, "4a15465648f543c150a93e37510e6a2665c1d16bf6dc28247f49137b6062e528"), looks := false }, kinds := [], alts := [], laidByText := true, laidKinds := [.wider], laidTests := true, laidLooks := .later }
def FieldBytesUptoCardSaid : Prop := Claim7.holds Tryd.pinned (.plain (OpenSpec.upto fieldBytesSpec)) fieldBytesUptoCard
end Rows
end Go.Proofs.YtjikomnnhbbmaaaDoor
