/-
  DERIVED. GIVEN WITH THE SEED: THE CARDS: each row of YtgmdpiaenfogcaaDoorRows.lean that lists a variable, with what it lists TIED to the program's text (the seventh form; the later family's looks); each row that meets fmt, with fmt's text TOLD by the authors' own Lean function (tested against real Go, not proved from fmt's source: count such statements apart). THE CARD IS WHAT COUNTS. Prove the row's statement (the work); the ties are given (YtgmdpiaenfogcaaDoorTie.lean); close each card by the builder's one call (the guide's Derived/Test/ToyasCard.lean, 'card_holds'). Laid BY PROGRAM, IN A SANDBOX (cutbox-door.mjs). By AI agents, Wed Nov 11 2026. No macro, syntax, notation, axiom, sorry.
-/
import Derived.Test.YtgmdpiaenfogcaaDoorRows
import GoSem.ClaimSeven
namespace Go.Proofs.YtgmdpiaenfogcaaDoor
namespace Rows

/-- THE TIED CARD OF 'custumallaw06.ScalarOf'. -/
def scalarOfCard : Claim7 := { stood := { row := scalarOfRow, standIns := [], harness := (true, "3b91d77b3ffcbc9df2bf75e3b6c1b9f7a0be53612c64a10bb29a3761295e0def"), looks := false }, kinds := [], alts := [], laidByText := true, laidKinds := [.wider], laidTests := true, laidLooks := .later }
def ScalarOfCardSaid : Prop := Claim7.holds Tryd.pinned (.plain (OpenSpec.ofChange scalarOfSpec)) scalarOfCard

/-- THE TIED CARD OF 'custumallaw06.ScalarCanon'. -/
def scalarCanonCard : Claim7 := { stood := { row := scalarCanonRow, standIns := [], harness := (true, "3b91d77b3ffcbc9df2bf75e3b6c1b9f7a0be53612c64a10bb29a3761295e0def"), looks := false }, kinds := [], alts := [], laidByText := true, laidKinds := [.wider], laidTests := true, laidLooks := .later }
def ScalarCanonCardSaid : Prop := Claim7.holds Tryd.pinned (.plain (OpenSpec.ofChange scalarCanonSpec)) scalarCanonCard

/-- THE TIED CARD OF 'custumallaw06.ScalarLaws'. -/
def scalarLawsCard : Claim7 := { stood := { row := scalarLawsRow, standIns := [], harness := (true, "3b91d77b3ffcbc9df2bf75e3b6c1b9f7a0be53612c64a10bb29a3761295e0def"), looks := false }, kinds := [], alts := [], laidByText := true, laidKinds := [.wider], laidTests := true, laidLooks := .later }
def ScalarLawsCardSaid : Prop := Claim7.holds Tryd.pinned (.plain (OpenSpec.ofChange scalarLawsSpec)) scalarLawsCard

/-- THE TIED CARD OF 'custumallaw06.ScalarSums'. -/
def scalarSumsCard : Claim7 := { stood := { row := scalarSumsRow, standIns := [], harness := (true, "3b91d77b3ffcbc9df2bf75e3b6c1b9f7a0be53612c64a10bb29a3761295e0def"), looks := false }, kinds := [], alts := [], laidByText := true, laidKinds := [.wider], laidTests := true, laidLooks := .later }
def ScalarSumsCardSaid : Prop := Claim7.holds Tryd.pinned (.plain (OpenSpec.ofChange scalarSumsSpec)) scalarSumsCard

/-- THE SECOND FORM's CARD OF 'custumallaw06.ScalarOf'. -/
def scalarOfUptoCard : Claim7 := { stood := { row := scalarOfUptoRow, standIns := [], harness := (true, "3b91d77b3ffcbc9df2bf75e3b6c1b9f7a0be53612c64a10bb29a3761295e0def"), looks := false }, kinds := [], alts := [], laidByText := true, laidKinds := [.wider], laidTests := true, laidLooks := .later }
def ScalarOfUptoCardSaid : Prop := Claim7.holds Tryd.pinned (.plain (OpenSpec.upto scalarOfSpec)) scalarOfUptoCard

/-- THE SECOND FORM's CARD OF 'custumallaw06.ScalarCanon'. -/
def scalarCanonUptoCard : Claim7 := { stood := { row := scalarCanonUptoRow, standIns := [], harness := (true, "3b91d77b3ffcbc9df2bf75e3b6c1b9f7a0be53612c64a10bb29a3761295e0def"), looks := false }, kinds := [], alts := [], laidByText := true, laidKinds := [.wider], laidTests := true, laidLooks := .later }
def ScalarCanonUptoCardSaid : Prop := Claim7.holds Tryd.pinned (.plain (OpenSpec.upto scalarCanonSpec)) scalarCanonUptoCard

/-- THE SECOND FORM's CARD OF 'custumallaw06.ScalarLaws'. -/
def scalarLawsUptoCard : Claim7 := { stood := { row := scalarLawsUptoRow, standIns := [], harness := (true, "3b91d77b3ffcbc9df2bf75e3b6c1b9f7a0be53612c64a10bb29a3761295e0def"), looks := false }, kinds := [], alts := [], laidByText := true, laidKinds := [.wider], laidTests := true, laidLooks := .later }
def ScalarLawsUptoCardSaid : Prop := Claim7.holds Tryd.pinned (.plain (OpenSpec.upto scalarLawsSpec)) scalarLawsUptoCard

/-- THE SECOND FORM's CARD OF 'custumallaw06.ScalarSums'. -/
def scalarSumsUptoCard : Claim7 := { stood := { row := scalarSumsUptoRow, standIns := [], harness := (true, "3b91d77b3ffcbc9df2bf75e3b6c1b9f7a0be53612c64a10bb29a3761295e0def"), looks := false }, kinds := [], alts := [], laidByText := true, laidKinds := [.wider], laidTests := true, laidLooks := .later }
def ScalarSumsUptoCardSaid : Prop := Claim7.holds Tryd.pinned (.plain (OpenSpec.upto scalarSumsSpec)) scalarSumsUptoCard
end Rows
end Go.Proofs.YtgmdpiaenfogcaaDoor
