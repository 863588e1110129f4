/-
  DERIVED. GIVEN WITH THE SEED: THE CARDS: each row of YtndnlbinnhdmbaaDoorRows.lean that lists a variable, with what it lists TIED to the program's text (the seventh form; the later family's looks); each row that meets fmt, with fmt's text TOLD by the authors' own Lean function (tested against real Go, not proved from fmt's source: count such statements apart). THE CARD IS WHAT COUNTS. Prove the row's statement (the work); the ties are given (YtndnlbinnhdmbaaDoorTie.lean); close each card by the builder's one call (the guide's Derived/Test/ToyasCard.lean, 'card_holds'). Laid BY PROGRAM, IN A SANDBOX (cutbox-door.mjs). By AI agents, Wed Nov 11 2026. No macro, syntax, notation, axiom, sorry.
-/
import Derived.Test.YtndnlbinnhdmbaaDoorRows
import GoSem.ClaimSeven
namespace Go.Proofs.YtndnlbinnhdmbaaDoor
namespace Rows

/-- THE TIED CARD OF 'custumallaw14.TreeSums'. -/
def treeSumsCard : Claim7 := { stood := { row := treeSumsRow, standIns := [], harness := (true, "85ffe6dc0ead3b981cefae3444aa24a9f4ff709ae43c3caca85346a502b91185"), looks := false }, kinds := [], alts := [], laidByText := true, laidKinds := [.data, .data, .data, .data], laidTests := true, laidLooks := .later }
def TreeSumsCardSaid : Prop := Claim7.holds Tryd.pinned (.plain (OpenSpec.ofChange treeSumsSpec)) treeSumsCard

/-- THE TIED CARD OF 'custumallaw14.TreeRoots'. -/
def treeRootsCard : Claim7 := { stood := { row := treeRootsRow, standIns := [], harness := (true, "85ffe6dc0ead3b981cefae3444aa24a9f4ff709ae43c3caca85346a502b91185"), looks := false }, kinds := [], alts := [], laidByText := true, laidKinds := [.data, .data, .data, .data], laidTests := true, laidLooks := .later }
def TreeRootsCardSaid : Prop := Claim7.holds Tryd.pinned (.plain (OpenSpec.ofChange treeRootsSpec)) treeRootsCard

/-- THE TIED CARD OF 'custumallaw14.TreeOrders'. -/
def treeOrdersCard : Claim7 := { stood := { row := treeOrdersRow, standIns := [], harness := (true, "85ffe6dc0ead3b981cefae3444aa24a9f4ff709ae43c3caca85346a502b91185"), looks := false }, kinds := [], alts := [], laidByText := true, laidKinds := [.data, .data, .data, .data], laidTests := true, laidLooks := .later }
def TreeOrdersCardSaid : Prop := Claim7.holds Tryd.pinned (.plain (OpenSpec.ofChange treeOrdersSpec)) treeOrdersCard

/-- THE TIED CARD OF 'custumallaw14.TreeStays'. -/
def treeStaysCard : Claim7 := { stood := { row := treeStaysRow, standIns := [], harness := (true, "85ffe6dc0ead3b981cefae3444aa24a9f4ff709ae43c3caca85346a502b91185"), looks := false }, kinds := [], alts := [], laidByText := true, laidKinds := [.data, .data, .data, .data], laidTests := true, laidLooks := .later }
def TreeStaysCardSaid : Prop := Claim7.holds Tryd.pinned (.plain (OpenSpec.ofChange treeStaysSpec)) treeStaysCard

/-- THE TIED CARD OF 'custumallaw14.TreeGets'. -/
def treeGetsCard : Claim7 := { stood := { row := treeGetsRow, standIns := [], harness := (true, "85ffe6dc0ead3b981cefae3444aa24a9f4ff709ae43c3caca85346a502b91185"), looks := false }, kinds := [], alts := [], laidByText := true, laidKinds := [.data, .data, .data, .data], laidTests := true, laidLooks := .later }
def TreeGetsCardSaid : Prop := Claim7.holds Tryd.pinned (.plain (OpenSpec.ofChange treeGetsSpec)) treeGetsCard

/-- THE TIED CARD OF 'custumallaw15.ProofChecks'. -/
def proofChecksCard : Claim7 := { stood := { row := proofChecksRow, standIns := [], harness := (true, "85ffe6dc0ead3b981cefae3444aa24a9f4ff709ae43c3caca85346a502b91185"), looks := false }, kinds := [], alts := [], laidByText := true, laidKinds := [.data, .data, .data, .data], laidTests := true, laidLooks := .later }
def ProofChecksCardSaid : Prop := Claim7.holds Tryd.pinned (.plain (OpenSpec.ofChange proofChecksSpec)) proofChecksCard

/-- THE TIED CARD OF 'custumallaw15.ProofOne'. -/
def proofOneCard : Claim7 := { stood := { row := proofOneRow, standIns := [], harness := (true, "85ffe6dc0ead3b981cefae3444aa24a9f4ff709ae43c3caca85346a502b91185"), looks := false }, kinds := [], alts := [], laidByText := true, laidKinds := [.data, .data, .data, .data], laidTests := true, laidLooks := .later }
def ProofOneCardSaid : Prop := Claim7.holds Tryd.pinned (.plain (OpenSpec.ofChange proofOneSpec)) proofOneCard

/-- THE TIED CARD OF 'custumallaw15.ProofBent'. -/
def proofBentCard : Claim7 := { stood := { row := proofBentRow, standIns := [], harness := (true, "85ffe6dc0ead3b981cefae3444aa24a9f4ff709ae43c3caca85346a502b91185"), looks := false }, kinds := [], alts := [], laidByText := true, laidKinds := [.data, .data, .data, .data], laidTests := true, laidLooks := .later }
def ProofBentCardSaid : Prop := Claim7.holds Tryd.pinned (.plain (OpenSpec.ofChange proofBentSpec)) proofBentCard

/-- THE TIED CARD OF 'custumallaw15.ProofBack'. -/
def proofBackCard : Claim7 := { stood := { row := proofBackRow, standIns := [], harness := (true, "85ffe6dc0ead3b981cefae3444aa24a9f4ff709ae43c3caca85346a502b91185"), looks := false }, kinds := [], alts := [], laidByText := true, laidKinds := [.data, .data], laidTests := true, laidLooks := .later }
def ProofBackCardSaid : Prop := Claim7.holds Tryd.pinned (.plain (OpenSpec.ofChange proofBackSpec)) proofBackCard

/-- THE TIED CARD OF 'custumallaw15.ProofShort'. -/
def proofShortCard : Claim7 := { stood := { row := proofShortRow, standIns := [], harness := (true, "85ffe6dc0ead3b981cefae3444aa24a9f4ff709ae43c3caca85346a502b91185"), looks := false }, kinds := [], alts := [], laidByText := true, laidKinds := [.data, .data], laidTests := true, laidLooks := .later }
def ProofShortCardSaid : Prop := Claim7.holds Tryd.pinned (.plain (OpenSpec.ofChange proofShortSpec)) proofShortCard

/-- THE TIED CARD OF 'custumallaw15.ProofBytes'. -/
def proofBytesCard : Claim7 := { stood := { row := proofBytesRow, standIns := [], harness := (true, "85ffe6dc0ead3b981cefae3444aa24a9f4ff709ae43c3caca85346a502b91185"), looks := false }, kinds := [], alts := [], laidByText := true, laidKinds := [.data, .data], laidTests := true, laidLooks := .later }
def ProofBytesCardSaid : Prop := Claim7.holds Tryd.pinned (.plain (OpenSpec.ofChange proofBytesSpec)) proofBytesCard

/-- THE SECOND FORM's CARD OF 'custumallaw14.TreeSums'. -/
def treeSumsUptoCard : Claim7 := { stood := { row := treeSumsUptoRow, standIns := [], harness := (true, "85ffe6dc0ead3b981cefae3444aa24a9f4ff709ae43c3caca85346a502b91185"), looks := false }, kinds := [], alts := [], laidByText := true, laidKinds := [.data, .data, .data, .data], laidTests := true, laidLooks := .later }
def TreeSumsUptoCardSaid : Prop := Claim7.holds Tryd.pinned (.plain (OpenSpec.upto treeSumsSpec)) treeSumsUptoCard

/-- THE SECOND FORM's CARD OF 'custumallaw14.TreeRoots'. -/
def treeRootsUptoCard : Claim7 := { stood := { row := treeRootsUptoRow, standIns := [], harness := (true, "85ffe6dc0ead3b981cefae3444aa24a9f4ff709ae43c3caca85346a502b91185"), looks := false }, kinds := [], alts := [], laidByText := true, laidKinds := [.data, .data, .data, .data], laidTests := true, laidLooks := .later }
def TreeRootsUptoCardSaid : Prop := Claim7.holds Tryd.pinned (.plain (OpenSpec.upto treeRootsSpec)) treeRootsUptoCard

/-- THE SECOND FORM's CARD OF 'custumallaw14.TreeOrders'. -/
def treeOrdersUptoCard : Claim7 := { stood := { row := treeOrdersUptoRow, standIns := [], harness := (true, "85ffe6dc0ead3b981cefae3444aa24a9f4ff709ae43c3caca85346a502b91185"), looks := false }, kinds := [], alts := [], laidByText := true, laidKinds := [.data, .data, .data, .data], laidTests := true, laidLooks := .later }
def TreeOrdersUptoCardSaid : Prop := Claim7.holds Tryd.pinned (.plain (OpenSpec.upto treeOrdersSpec)) treeOrdersUptoCard

/-- THE SECOND FORM's CARD OF 'custumallaw14.TreeStays'. -/
def treeStaysUptoCard : Claim7 := { stood := { row := treeStaysUptoRow, standIns := [], harness := (true, "85ffe6dc0ead3b981cefae3444aa24a9f4ff709ae43c3caca85346a502b91185"), looks := false }, kinds := [], alts := [], laidByText := true, laidKinds := [.data, .data, .data, .data], laidTests := true, laidLooks := .later }
def TreeStaysUptoCardSaid : Prop := Claim7.holds Tryd.pinned (.plain (OpenSpec.upto treeStaysSpec)) treeStaysUptoCard

/-- THE SECOND FORM's CARD OF 'custumallaw14.TreeGets'. -/
def treeGetsUptoCard : Claim7 := { stood := { row := treeGetsUptoRow, standIns := [], harness := (true, "85ffe6dc0ead3b981cefae3444aa24a9f4ff709ae43c3caca85346a502b91185"), looks := false }, kinds := [], alts := [], laidByText := true, laidKinds := [.data, .data, .data, .data], laidTests := true, laidLooks := .later }
def TreeGetsUptoCardSaid : Prop := Claim7.holds Tryd.pinned (.plain (OpenSpec.upto treeGetsSpec)) treeGetsUptoCard

/-- THE SECOND FORM's CARD OF 'custumallaw15.ProofChecks'. -/
def proofChecksUptoCard : Claim7 := { stood := { row := proofChecksUptoRow, standIns := [], harness := (true, "85ffe6dc0ead3b981cefae3444aa24a9f4ff709ae43c3caca85346a502b91185"), looks := false }, kinds := [], alts := [], laidByText := true, laidKinds := [.data, .data, .data, .data], laidTests := true, laidLooks := .later }
def ProofChecksUptoCardSaid : Prop := Claim7.holds Tryd.pinned (.plain (OpenSpec.upto proofChecksSpec)) proofChecksUptoCard

/-- THE SECOND FORM's CARD OF 'custumallaw15.ProofOne'. -/
def proofOneUptoCard : Claim7 := { stood := { row := proofOneUptoRow, standIns := [], harness := (true, "85ffe6dc0ead3b981cefae3444aa24a9f4ff709ae43c3caca85346a502b91185"), looks := false }, kinds := [], alts := [], laidByText := true, laidKinds := [.data, .data, .data, .data], laidTests := true, laidLooks := .later }
def ProofOneUptoCardSaid : Prop := Claim7.holds Tryd.pinned (.plain (OpenSpec.upto proofOneSpec)) proofOneUptoCard

/-- THE SECOND FORM's CARD OF 'custumallaw15.ProofBent'. -/
def proofBentUptoCard : Claim7 := { stood := { row := proofBentUptoRow, standIns := [], harness := (true, "85ffe6dc0ead3b981cefae3444aa24a9f4ff709ae43c3caca85346a502b91185"), looks := false }, kinds := [], alts := [], laidByText := true, laidKinds := [.data, .data, .data, .data], laidTests := true, laidLooks := .later }
def ProofBentUptoCardSaid : Prop := Claim7.holds Tryd.pinned (.plain (OpenSpec.upto proofBentSpec)) proofBentUptoCard

/-- THE SECOND FORM's CARD OF 'custumallaw15.ProofBack'. -/
def proofBackUptoCard : Claim7 := { stood := { row := proofBackUptoRow, standIns := [], harness := (true, "85ffe6dc0ead3b981cefae3444aa24a9f4ff709ae43c3caca85346a502b91185"), looks := false }, kinds := [], alts := [], laidByText := true, laidKinds := [.data, .data], laidTests := true, laidLooks := .later }
def ProofBackUptoCardSaid : Prop := Claim7.holds Tryd.pinned (.plain (OpenSpec.upto proofBackSpec)) proofBackUptoCard

/-- THE SECOND FORM's CARD OF 'custumallaw15.ProofShort'. -/
def proofShortUptoCard : Claim7 := { stood := { row := proofShortUptoRow, standIns := [], harness := (true, "85ffe6dc0ead3b981cefae3444aa24a9f4ff709ae43c3caca85346a502b91185"), looks := false }, kinds := [], alts := [], laidByText := true, laidKinds := [.data, .data], laidTests := true, laidLooks := .later }
def ProofShortUptoCardSaid : Prop := Claim7.holds Tryd.pinned (.plain (OpenSpec.upto proofShortSpec)) proofShortUptoCard

/-- THE SECOND FORM's CARD OF 'custumallaw15.ProofBytes'. -/
def proofBytesUptoCard : Claim7 := { stood := { row := proofBytesUptoRow, standIns := [], harness := (true, "85ffe6dc0ead3b981cefae3444aa24a9f4ff709ae43c3caca85346a502b91185"), looks := false }, kinds := [], alts := [], laidByText := true, laidKinds := [.data, .data], laidTests := true, laidLooks := .later }
def ProofBytesUptoCardSaid : Prop := Claim7.holds Tryd.pinned (.plain (OpenSpec.upto proofBytesSpec)) proofBytesUptoCard
end Rows
end Go.Proofs.YtndnlbinnhdmbaaDoor
