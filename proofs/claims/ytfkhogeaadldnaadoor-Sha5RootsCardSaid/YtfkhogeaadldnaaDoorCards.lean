/-
  DERIVED. GIVEN WITH THE SEED: THE CARDS: each row of YtfkhogeaadldnaaDoorRows.lean that lists a variable, with what it lists TIED to the program's text (the seventh form; the later family's looks); each row that meets fmt, with fmt's text TOLD by the authors' own Lean function (tested against real Go, not proved from fmt's source: count such statements apart). THE CARD IS WHAT COUNTS. Prove the row's statement (the work); the ties are given (YtfkhogeaadldnaaDoorTie.lean); close each card by the builder's one call (the guide's Derived/Test/ToyasCard.lean, 'card_holds'). Laid BY PROGRAM, IN A SANDBOX (cutbox-door.mjs). By AI agents, Wed Nov 11 2026. No macro, syntax, notation, axiom, sorry.
-/
import Derived.Test.YtfkhogeaadldnaaDoorRows
import GoSem.ClaimSeven
namespace Go.Proofs.YtfkhogeaadldnaaDoor
namespace Rows

/-- THE TIED CARD OF 'custumallaw02.Sha5Sums'. -/
def sha5SumsCard : Claim7 := { stood := { row := sha5SumsRow, standIns := [], harness := (true, "ddff9c031ef241c9e0e0e1c7401fadc3dc276ea82301af0111bf87a8319a44ca"), looks := false }, kinds := [], alts := [], laidByText := true, laidKinds := [.data, .data, .data, .data], laidTests := true, laidLooks := .later }
def Sha5SumsCardSaid : Prop := Claim7.holds Tryd.pinned (.plain (OpenSpec.ofChange sha5SumsSpec)) sha5SumsCard

/-- THE TIED CARD OF 'custumallaw02.Sha5Sizes'. -/
def sha5SizesCard : Claim7 := { stood := { row := sha5SizesRow, standIns := [], harness := (true, "ddff9c031ef241c9e0e0e1c7401fadc3dc276ea82301af0111bf87a8319a44ca"), looks := false }, kinds := [], alts := [], laidByText := true, laidKinds := [.data, .data, .data, .data], laidTests := true, laidLooks := .later }
def Sha5SizesCardSaid : Prop := Claim7.holds Tryd.pinned (.plain (OpenSpec.ofChange sha5SizesSpec)) sha5SizesCard

/-- THE TIED CARD OF 'custumallaw02.Sha5Parts'. -/
def sha5PartsCard : Claim7 := { stood := { row := sha5PartsRow, standIns := [], harness := (true, "ddff9c031ef241c9e0e0e1c7401fadc3dc276ea82301af0111bf87a8319a44ca"), looks := false }, kinds := [], alts := [], laidByText := true, laidKinds := [.data, .data], laidTests := true, laidLooks := .later }
def Sha5PartsCardSaid : Prop := Claim7.holds Tryd.pinned (.plain (OpenSpec.ofChange sha5PartsSpec)) sha5PartsCard

/-- THE TIED CARD OF 'custumallaw02.Sha5Roots'. -/
def sha5RootsCard : Claim7 := { stood := { row := sha5RootsRow, standIns := [], harness := (true, "ddff9c031ef241c9e0e0e1c7401fadc3dc276ea82301af0111bf87a8319a44ca"), looks := false }, kinds := [], alts := [], laidByText := true, laidKinds := [.data, .data, .data, .data], laidTests := true, laidLooks := .later }
def Sha5RootsCardSaid : Prop := Claim7.holds Tryd.pinned (.plain (OpenSpec.ofChange sha5RootsSpec)) sha5RootsCard

/-- THE SECOND FORM's CARD OF 'custumallaw02.Sha5Sums'. -/
def sha5SumsUptoCard : Claim7 := { stood := { row := sha5SumsUptoRow, standIns := [], harness := (true, "ddff9c031ef241c9e0e0e1c7401fadc3dc276ea82301af0111bf87a8319a44ca"), looks := false }, kinds := [], alts := [], laidByText := true, laidKinds := [.data, .data, .data, .data], laidTests := true, laidLooks := .later }
def Sha5SumsUptoCardSaid : Prop := Claim7.holds Tryd.pinned (.plain (OpenSpec.upto sha5SumsSpec)) sha5SumsUptoCard

/-- THE SECOND FORM's CARD OF 'custumallaw02.Sha5Sizes'. -/
def sha5SizesUptoCard : Claim7 := { stood := { row := sha5SizesUptoRow, standIns := [], harness := (true, "ddff9c031ef241c9e0e0e1c7401fadc3dc276ea82301af0111bf87a8319a44ca"), looks := false }, kinds := [], alts := [], laidByText := true, laidKinds := [.data, .data, .data, .data], laidTests := true, laidLooks := .later }
def Sha5SizesUptoCardSaid : Prop := Claim7.holds Tryd.pinned (.plain (OpenSpec.upto sha5SizesSpec)) sha5SizesUptoCard

/-- THE SECOND FORM's CARD OF 'custumallaw02.Sha5Parts'. -/
def sha5PartsUptoCard : Claim7 := { stood := { row := sha5PartsUptoRow, standIns := [], harness := (true, "ddff9c031ef241c9e0e0e1c7401fadc3dc276ea82301af0111bf87a8319a44ca"), looks := false }, kinds := [], alts := [], laidByText := true, laidKinds := [.data, .data], laidTests := true, laidLooks := .later }
def Sha5PartsUptoCardSaid : Prop := Claim7.holds Tryd.pinned (.plain (OpenSpec.upto sha5PartsSpec)) sha5PartsUptoCard

/-- THE SECOND FORM's CARD OF 'custumallaw02.Sha5Roots'. -/
def sha5RootsUptoCard : Claim7 := { stood := { row := sha5RootsUptoRow, standIns := [], harness := (true, "ddff9c031ef241c9e0e0e1c7401fadc3dc276ea82301af0111bf87a8319a44ca"), looks := false }, kinds := [], alts := [], laidByText := true, laidKinds := [.data, .data, .data, .data], laidTests := true, laidLooks := .later }
def Sha5RootsUptoCardSaid : Prop := Claim7.holds Tryd.pinned (.plain (OpenSpec.upto sha5RootsSpec)) sha5RootsUptoCard
end Rows
end Go.Proofs.YtfkhogeaadldnaaDoor
