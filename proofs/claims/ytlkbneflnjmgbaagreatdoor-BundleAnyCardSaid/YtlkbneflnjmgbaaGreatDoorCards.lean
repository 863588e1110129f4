/-
  DERIVED. GIVEN WITH THE SEED: THE CARDS: each row of YtlkbneflnjmgbaaGreatDoorRows.lean that lists a variable, with what it lists TIED to the program's text (the seventh form; the later family's looks); each row that meets fmt, with fmt's text TOLD by the authors' own Lean function (tested against real Go, not proved from fmt's source: count such statements apart). THE CARD IS WHAT COUNTS. Prove the row's statement (the work); the ties are given (YtlkbneflnjmgbaaGreatDoorTie.lean); close each card by the builder's one call (the guide's Derived/Test/ToyasCard.lean, 'card_holds'). Laid BY PROGRAM, IN A SANDBOX (cutbox-door.mjs). By AI agents, Wed Nov 11 2026. No macro, syntax, notation, axiom, sorry.
-/
import Derived.Test.YtlkbneflnjmgbaaGreatDoorRows
import GoSem.ClaimSeven
namespace Go.Proofs.YtlkbneflnjmgbaaGreatDoor
namespace Rows

/-- THE TIED CARD OF 'custumallaw25.BundleBytes'. -/
def bundleBytesCard : Claim7 := { stood := { row := bundleBytesRow, standIns := [], harness := (true, "87bad65a34f1dc6165fb4bf91412ad9aa9a161a9fce194d49dc191f6f7b0a61b"), looks := false }, kinds := [], alts := [], laidByText := true, laidKinds := [.data, .data, .data, .data, .wider, .data, .data, .data, .data, .data, .wider, .data, .data, .data, .data], laidTests := true, laidLooks := .later }
def BundleBytesCardSaid : Prop := Claim7.holds Tryz.pinned (.plain (OpenSpec.ofChange bundleBytesSpec)) bundleBytesCard

/-- THE TIED CARD OF 'custumallaw25.BundleBent'. -/
def bundleBentCard : Claim7 := { stood := { row := bundleBentRow, standIns := [], harness := (true, "87bad65a34f1dc6165fb4bf91412ad9aa9a161a9fce194d49dc191f6f7b0a61b"), looks := false }, kinds := [], alts := [], laidByText := true, laidKinds := [.data, .data, .data, .data, .wider, .data, .data, .data, .data, .data, .wider, .data, .data, .data, .data], laidTests := true, laidLooks := .later }
def BundleBentCardSaid : Prop := Claim7.holds Tryz.pinned (.plain (OpenSpec.ofChange bundleBentSpec)) bundleBentCard

/-- THE TIED CARD OF 'custumallaw25.BundleAny'. -/
def bundleAnyCard : Claim7 := { stood := { row := bundleAnyRow, standIns := [], harness := (true, "87bad65a34f1dc6165fb4bf91412ad9aa9a161a9fce194d49dc191f6f7b0a61b"), looks := false }, kinds := [], alts := [], laidByText := true, laidKinds := [.wider, .data, .data, .data, .data, .data, .wider, .data, .data, .data, .data], laidTests := true, laidLooks := .later }
def BundleAnyCardSaid : Prop := Claim7.holds Tryz.pinned (.plain (OpenSpec.ofChange bundleAnySpec)) bundleAnyCard

/-- THE TIED CARD OF 'custumallaw25.BundleBack'. -/
def bundleBackCard : Claim7 := { stood := { row := bundleBackRow, standIns := [], harness := (true, "87bad65a34f1dc6165fb4bf91412ad9aa9a161a9fce194d49dc191f6f7b0a61b"), looks := false }, kinds := [], alts := [], laidByText := true, laidKinds := [.data, .data, .data, .data, .wider, .data, .data, .data, .data, .data, .wider, .data, .data, .data, .data], laidTests := true, laidLooks := .later }
def BundleBackCardSaid : Prop := Claim7.holds Tryz.pinned (.plain (OpenSpec.ofChange bundleBackSpec)) bundleBackCard

/-- THE SECOND FORM's CARD OF 'custumallaw25.BundleBytes'. -/
def bundleBytesUptoCard : Claim7 := { stood := { row := bundleBytesUptoRow, standIns := [], harness := (true, "87bad65a34f1dc6165fb4bf91412ad9aa9a161a9fce194d49dc191f6f7b0a61b"), looks := false }, kinds := [], alts := [], laidByText := true, laidKinds := [.data, .data, .data, .data, .wider, .data, .data, .data, .data, .data, .wider, .data, .data, .data, .data], laidTests := true, laidLooks := .later }
def BundleBytesUptoCardSaid : Prop := Claim7.holds Tryz.pinned (.plain (OpenSpec.upto bundleBytesSpec)) bundleBytesUptoCard

/-- THE SECOND FORM's CARD OF 'custumallaw25.BundleBent'. -/
def bundleBentUptoCard : Claim7 := { stood := { row := bundleBentUptoRow, standIns := [], harness := (true, "87bad65a34f1dc6165fb4bf91412ad9aa9a161a9fce194d49dc191f6f7b0a61b"), looks := false }, kinds := [], alts := [], laidByText := true, laidKinds := [.data, .data, .data, .data, .wider, .data, .data, .data, .data, .data, .wider, .data, .data, .data, .data], laidTests := true, laidLooks := .later }
def BundleBentUptoCardSaid : Prop := Claim7.holds Tryz.pinned (.plain (OpenSpec.upto bundleBentSpec)) bundleBentUptoCard

/-- THE SECOND FORM's CARD OF 'custumallaw25.BundleAny'. -/
def bundleAnyUptoCard : Claim7 := { stood := { row := bundleAnyUptoRow, standIns := [], harness := (true, "87bad65a34f1dc6165fb4bf91412ad9aa9a161a9fce194d49dc191f6f7b0a61b"), looks := false }, kinds := [], alts := [], laidByText := true, laidKinds := [.wider, .data, .data, .data, .data, .data, .wider, .data, .data, .data, .data], laidTests := true, laidLooks := .later }
def BundleAnyUptoCardSaid : Prop := Claim7.holds Tryz.pinned (.plain (OpenSpec.upto bundleAnySpec)) bundleAnyUptoCard

/-- THE SECOND FORM's CARD OF 'custumallaw25.BundleBack'. -/
def bundleBackUptoCard : Claim7 := { stood := { row := bundleBackUptoRow, standIns := [], harness := (true, "87bad65a34f1dc6165fb4bf91412ad9aa9a161a9fce194d49dc191f6f7b0a61b"), looks := false }, kinds := [], alts := [], laidByText := true, laidKinds := [.data, .data, .data, .data, .wider, .data, .data, .data, .data, .data, .wider, .data, .data, .data, .data], laidTests := true, laidLooks := .later }
def BundleBackUptoCardSaid : Prop := Claim7.holds Tryz.pinned (.plain (OpenSpec.upto bundleBackSpec)) bundleBackUptoCard
end Rows
end Go.Proofs.YtlkbneflnjmgbaaGreatDoor
