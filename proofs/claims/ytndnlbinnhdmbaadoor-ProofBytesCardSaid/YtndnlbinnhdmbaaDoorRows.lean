/-
  NARROWER THAN 'FOR EVERY INPUT', by the rows' own cells (each row's printed sentence says how): TreeSums: laid · TreeRoots: laid · TreeOrders: laid · TreeStays: laid · TreeGets: laid · ProofChecks: laid · ProofOne: laid · ProofBent: laid · ProofBack: laid · ProofShort: laid · ProofBytes: laid.
  DERIVED. THE GIVEN ROWS OF THIS SEAT. 11 by the template 'for every input the law returns true; each argument reads behind the call as it read before'; 0 by the template 'total and deterministic' (their statements: YtndnlbinnhdmbaaDoorTotals.lean).
  GIVEN WITH THE SEED: the statements are not yours to turn. If you find one false, say at which input.
  Laid BY PROGRAM, IN A SANDBOX (cutbox-rows.mjs): the forced cells as the released guide's own fill.sh prints them over the translation 4c48e08d5708cfad… (all of the seat's roots in one cut). By AI agents, Wed Nov 11 2026. No macro, syntax, notation, axiom, sorry.
-/
import Derived.Test.YtndnlbinnhdmbaaDoorChecked
import GoSem.Claim
import GoSem.ClaimJoined
import GoSem.ClaimMapViews
import Derived.JoinedTies
import Derived.KernelRfl
namespace Go.Proofs.YtndnlbinnhdmbaaDoor
/- THE CELL 'sum', in the pinned program and in every row, IS THE sha256 OF THE DUMP (.gsa) THAT YtndnlbinnhdmbaaDoorProg.lean LOADS. Nothing in Lean hashes anything: it is a label: what it is worth is what the hold of that sum in a sandbox is worth. -/
noncomputable def Tryd.pinned : Pinned := { name := "ytndnlbinnhdmbaadoor", sum := "4c48e08d5708cfad73cec0af3066fecdf2d9f1b21de61c8b6a80846330bee440", checked := Tryd.checked }
namespace Rows
def none {H : Type} : Left H := { results := [], args := [] }

/- WHAT THE LISTED PACKAGE-LEVEL VARIABLES READ AS WHEN THE CALL BEGINS. Each datum BY PROGRAM (the guide's laid-datum.mjs) off the statement by which the dump's own 'gosem.cut.vars' lays the variable. In a bare row this is a premise. The card (YtndnlbinnhdmbaaDoorCards.lean) ties it to the program's text. -/
def laid_custumal_custumalref01_K {H : Type} : DataW H := .agg [.lit (.int .i64 1116352408), .lit (.int .i64 1899447441), .lit (.int .i64 3049323471), .lit (.int .i64 3921009573), .lit (.int .i64 961987163), .lit (.int .i64 1508970993), .lit (.int .i64 2453635748), .lit (.int .i64 2870763221), .lit (.int .i64 3624381080), .lit (.int .i64 310598401), .lit (.int .i64 607225278), .lit (.int .i64 1426881987), .lit (.int .i64 1925078388), .lit (.int .i64 2162078206), .lit (.int .i64 2614888103), .lit (.int .i64 3248222580), .lit (.int .i64 3835390401), .lit (.int .i64 4022224774), .lit (.int .i64 264347078), .lit (.int .i64 604807628), .lit (.int .i64 770255983), .lit (.int .i64 1249150122), .lit (.int .i64 1555081692), .lit (.int .i64 1996064986), .lit (.int .i64 2554220882), .lit (.int .i64 2821834349), .lit (.int .i64 2952996808), .lit (.int .i64 3210313671), .lit (.int .i64 3336571891), .lit (.int .i64 3584528711), .lit (.int .i64 113926993), .lit (.int .i64 338241895), .lit (.int .i64 666307205), .lit (.int .i64 773529912), .lit (.int .i64 1294757372), .lit (.int .i64 1396182291), .lit (.int .i64 1695183700), .lit (.int .i64 1986661051), .lit (.int .i64 2177026350), .lit (.int .i64 2456956037), .lit (.int .i64 2730485921), .lit (.int .i64 2820302411), .lit (.int .i64 3259730800), .lit (.int .i64 3345764771), .lit (.int .i64 3516065817), .lit (.int .i64 3600352804), .lit (.int .i64 4094571909), .lit (.int .i64 275423344), .lit (.int .i64 430227734), .lit (.int .i64 506948616), .lit (.int .i64 659060556), .lit (.int .i64 883997877), .lit (.int .i64 958139571), .lit (.int .i64 1322822218), .lit (.int .i64 1537002063), .lit (.int .i64 1747873779), .lit (.int .i64 1955562222), .lit (.int .i64 2024104815), .lit (.int .i64 2227730452), .lit (.int .i64 2361852424), .lit (.int .i64 2428436474), .lit (.int .i64 2756734187), .lit (.int .i64 3204031479), .lit (.int .i64 3329325298)]
def laid_custumal_custumalref01_H {H : Type} : DataW H := .agg [.lit (.int .i64 1779033703), .lit (.int .i64 3144134277), .lit (.int .i64 1013904242), .lit (.int .i64 2773480762), .lit (.int .i64 1359893119), .lit (.int .i64 2600822924), .lit (.int .i64 528734635), .lit (.int .i64 1541459225)]
def laid_custumal_sha2_start {H : Type} : DataW H := .agg [.lit (.int .u32 1779033703), .lit (.int .u32 3144134277), .lit (.int .u32 1013904242), .lit (.int .u32 2773480762), .lit (.int .u32 1359893119), .lit (.int .u32 2600822924), .lit (.int .u32 528734635), .lit (.int .u32 1541459225)]
def laid_custumal_sha2_rounds {H : Type} : DataW H := .agg [.lit (.int .u32 1116352408), .lit (.int .u32 1899447441), .lit (.int .u32 3049323471), .lit (.int .u32 3921009573), .lit (.int .u32 961987163), .lit (.int .u32 1508970993), .lit (.int .u32 2453635748), .lit (.int .u32 2870763221), .lit (.int .u32 3624381080), .lit (.int .u32 310598401), .lit (.int .u32 607225278), .lit (.int .u32 1426881987), .lit (.int .u32 1925078388), .lit (.int .u32 2162078206), .lit (.int .u32 2614888103), .lit (.int .u32 3248222580), .lit (.int .u32 3835390401), .lit (.int .u32 4022224774), .lit (.int .u32 264347078), .lit (.int .u32 604807628), .lit (.int .u32 770255983), .lit (.int .u32 1249150122), .lit (.int .u32 1555081692), .lit (.int .u32 1996064986), .lit (.int .u32 2554220882), .lit (.int .u32 2821834349), .lit (.int .u32 2952996808), .lit (.int .u32 3210313671), .lit (.int .u32 3336571891), .lit (.int .u32 3584528711), .lit (.int .u32 113926993), .lit (.int .u32 338241895), .lit (.int .u32 666307205), .lit (.int .u32 773529912), .lit (.int .u32 1294757372), .lit (.int .u32 1396182291), .lit (.int .u32 1695183700), .lit (.int .u32 1986661051), .lit (.int .u32 2177026350), .lit (.int .u32 2456956037), .lit (.int .u32 2730485921), .lit (.int .u32 2820302411), .lit (.int .u32 3259730800), .lit (.int .u32 3345764771), .lit (.int .u32 3516065817), .lit (.int .u32 3600352804), .lit (.int .u32 4094571909), .lit (.int .u32 275423344), .lit (.int .u32 430227734), .lit (.int .u32 506948616), .lit (.int .u32 659060556), .lit (.int .u32 883997877), .lit (.int .u32 958139571), .lit (.int .u32 1322822218), .lit (.int .u32 1537002063), .lit (.int .u32 1747873779), .lit (.int .u32 1955562222), .lit (.int .u32 2024104815), .lit (.int .u32 2227730452), .lit (.int .u32 2361852424), .lit (.int .u32 2428436474), .lit (.int .u32 2756734187), .lit (.int .u32 3204031479), .lit (.int .u32 3329325298)]

/-- 'custumallaw14.TreeSums': WHATEVER THE INPUT: true; the input reads as it did. -/
def treeSumsSpec : ChangeSpec := { name := "treeSums", fn := fun _ => fun
  | [d1, d2, d3] => { results := [.lit (.bool true)], args := [d1, d2, d3] }
  | _ => none }
def treeSumsRow : OpenClaim := { program := "ytndnlbinnhdmbaadoor", sum := "4c48e08d5708cfad73cec0af3066fecdf2d9f1b21de61c8b6a80846330bee440", func := "custumal/custumallaw14.TreeSums", spec := "treeSums", recurses := true, named := ["custumal/sha2.start", "custumal/sha2.rounds", "custumal/custumalref01.H", "custumal/custumalref01.K"], apart := false, laid := [("custumal/custumalref01.K", laid_custumal_custumalref01_K), ("custumal/custumalref01.H", laid_custumal_custumalref01_H), ("custumal/sha2.start", laid_custumal_sha2_start), ("custumal/sha2.rounds", laid_custumal_sha2_rounds)] }
def TreeSumsSaid : Prop := treeSumsRow.holds Tryd.pinned (OpenSpec.ofChange treeSumsSpec)

/-- ITS FALSE NEIGHBOUR: 'it returns false'. Refute it at one input. -/
def treeSumsWrong : ChangeSpec := { name := "treeSums", fn := fun _ => fun
  | [d1, d2, d3] => { results := [.lit (.bool false)], args := [d1, d2, d3] }
  | _ => none }
def TreeSumsWrongFalsely : Prop := treeSumsRow.holds Tryd.pinned (OpenSpec.ofChange treeSumsWrong)

/-- 'custumallaw14.TreeRoots': WHATEVER THE INPUT: true; the input reads as it did. -/
def treeRootsSpec : ChangeSpec := { name := "treeRoots", fn := fun _ => fun
  | [d] => { results := [.lit (.bool true)], args := [d] }
  | _ => none }
def treeRootsRow : OpenClaim := { program := "ytndnlbinnhdmbaadoor", sum := "4c48e08d5708cfad73cec0af3066fecdf2d9f1b21de61c8b6a80846330bee440", func := "custumal/custumallaw14.TreeRoots", spec := "treeRoots", recurses := true, named := ["custumal/sha2.start", "custumal/sha2.rounds", "custumal/custumalref01.H", "custumal/custumalref01.K"], apart := false, laid := [("custumal/custumalref01.K", laid_custumal_custumalref01_K), ("custumal/custumalref01.H", laid_custumal_custumalref01_H), ("custumal/sha2.start", laid_custumal_sha2_start), ("custumal/sha2.rounds", laid_custumal_sha2_rounds)] }
def TreeRootsSaid : Prop := treeRootsRow.holds Tryd.pinned (OpenSpec.ofChange treeRootsSpec)

/-- ITS FALSE NEIGHBOUR: 'it returns false'. Refute it at one input. -/
def treeRootsWrong : ChangeSpec := { name := "treeRoots", fn := fun _ => fun
  | [d] => { results := [.lit (.bool false)], args := [d] }
  | _ => none }
def TreeRootsWrongFalsely : Prop := treeRootsRow.holds Tryd.pinned (OpenSpec.ofChange treeRootsWrong)

/-- 'custumallaw14.TreeOrders': WHATEVER THE INPUT: true; the input reads as it did. -/
def treeOrdersSpec : ChangeSpec := { name := "treeOrders", fn := fun _ => fun
  | [d1, d2] => { results := [.lit (.bool true)], args := [d1, d2] }
  | _ => none }
def treeOrdersRow : OpenClaim := { program := "ytndnlbinnhdmbaadoor", sum := "4c48e08d5708cfad73cec0af3066fecdf2d9f1b21de61c8b6a80846330bee440", func := "custumal/custumallaw14.TreeOrders", spec := "treeOrders", recurses := true, named := ["custumal/sha2.start", "custumal/sha2.rounds", "custumal/custumalref01.H", "custumal/custumalref01.K"], apart := false, laid := [("custumal/custumalref01.K", laid_custumal_custumalref01_K), ("custumal/custumalref01.H", laid_custumal_custumalref01_H), ("custumal/sha2.start", laid_custumal_sha2_start), ("custumal/sha2.rounds", laid_custumal_sha2_rounds)] }
def TreeOrdersSaid : Prop := treeOrdersRow.holds Tryd.pinned (OpenSpec.ofChange treeOrdersSpec)

/-- ITS FALSE NEIGHBOUR: 'it returns false'. Refute it at one input. -/
def treeOrdersWrong : ChangeSpec := { name := "treeOrders", fn := fun _ => fun
  | [d1, d2] => { results := [.lit (.bool false)], args := [d1, d2] }
  | _ => none }
def TreeOrdersWrongFalsely : Prop := treeOrdersRow.holds Tryd.pinned (OpenSpec.ofChange treeOrdersWrong)

/-- 'custumallaw14.TreeStays': WHATEVER THE INPUT: true; the input reads as it did. -/
def treeStaysSpec : ChangeSpec := { name := "treeStays", fn := fun _ => fun
  | [d1, d2] => { results := [.lit (.bool true)], args := [d1, d2] }
  | _ => none }
def treeStaysRow : OpenClaim := { program := "ytndnlbinnhdmbaadoor", sum := "4c48e08d5708cfad73cec0af3066fecdf2d9f1b21de61c8b6a80846330bee440", func := "custumal/custumallaw14.TreeStays", spec := "treeStays", recurses := true, named := ["custumal/sha2.start", "custumal/sha2.rounds", "custumal/custumalref01.H", "custumal/custumalref01.K"], apart := false, laid := [("custumal/custumalref01.K", laid_custumal_custumalref01_K), ("custumal/custumalref01.H", laid_custumal_custumalref01_H), ("custumal/sha2.start", laid_custumal_sha2_start), ("custumal/sha2.rounds", laid_custumal_sha2_rounds)] }
def TreeStaysSaid : Prop := treeStaysRow.holds Tryd.pinned (OpenSpec.ofChange treeStaysSpec)

/-- ITS FALSE NEIGHBOUR: 'it returns false'. Refute it at one input. -/
def treeStaysWrong : ChangeSpec := { name := "treeStays", fn := fun _ => fun
  | [d1, d2] => { results := [.lit (.bool false)], args := [d1, d2] }
  | _ => none }
def TreeStaysWrongFalsely : Prop := treeStaysRow.holds Tryd.pinned (OpenSpec.ofChange treeStaysWrong)

/-- 'custumallaw14.TreeGets': WHATEVER THE INPUT: true; the input reads as it did. -/
def treeGetsSpec : ChangeSpec := { name := "treeGets", fn := fun _ => fun
  | [d1, d2] => { results := [.lit (.bool true)], args := [d1, d2] }
  | _ => none }
def treeGetsRow : OpenClaim := { program := "ytndnlbinnhdmbaadoor", sum := "4c48e08d5708cfad73cec0af3066fecdf2d9f1b21de61c8b6a80846330bee440", func := "custumal/custumallaw14.TreeGets", spec := "treeGets", recurses := true, named := ["custumal/sha2.start", "custumal/sha2.rounds", "custumal/custumalref01.H", "custumal/custumalref01.K"], apart := false, laid := [("custumal/custumalref01.K", laid_custumal_custumalref01_K), ("custumal/custumalref01.H", laid_custumal_custumalref01_H), ("custumal/sha2.start", laid_custumal_sha2_start), ("custumal/sha2.rounds", laid_custumal_sha2_rounds)] }
def TreeGetsSaid : Prop := treeGetsRow.holds Tryd.pinned (OpenSpec.ofChange treeGetsSpec)

/-- ITS FALSE NEIGHBOUR: 'it returns false'. Refute it at one input. -/
def treeGetsWrong : ChangeSpec := { name := "treeGets", fn := fun _ => fun
  | [d1, d2] => { results := [.lit (.bool false)], args := [d1, d2] }
  | _ => none }
def TreeGetsWrongFalsely : Prop := treeGetsRow.holds Tryd.pinned (OpenSpec.ofChange treeGetsWrong)

/-- 'custumallaw15.ProofChecks': WHATEVER THE INPUT: true; the input reads as it did. -/
def proofChecksSpec : ChangeSpec := { name := "proofChecks", fn := fun _ => fun
  | [d1, d2, d3] => { results := [.lit (.bool true)], args := [d1, d2, d3] }
  | _ => none }
def proofChecksRow : OpenClaim := { program := "ytndnlbinnhdmbaadoor", sum := "4c48e08d5708cfad73cec0af3066fecdf2d9f1b21de61c8b6a80846330bee440", func := "custumal/custumallaw15.ProofChecks", spec := "proofChecks", recurses := true, named := ["custumal/custumalref01.H", "custumal/custumalref01.K", "custumal/sha2.start", "custumal/sha2.rounds"], apart := false, laid := [("custumal/custumalref01.K", laid_custumal_custumalref01_K), ("custumal/custumalref01.H", laid_custumal_custumalref01_H), ("custumal/sha2.start", laid_custumal_sha2_start), ("custumal/sha2.rounds", laid_custumal_sha2_rounds)] }
def ProofChecksSaid : Prop := proofChecksRow.holds Tryd.pinned (OpenSpec.ofChange proofChecksSpec)

/-- ITS FALSE NEIGHBOUR: 'it returns false'. Refute it at one input. -/
def proofChecksWrong : ChangeSpec := { name := "proofChecks", fn := fun _ => fun
  | [d1, d2, d3] => { results := [.lit (.bool false)], args := [d1, d2, d3] }
  | _ => none }
def ProofChecksWrongFalsely : Prop := proofChecksRow.holds Tryd.pinned (OpenSpec.ofChange proofChecksWrong)

/-- 'custumallaw15.ProofOne': WHATEVER THE INPUT: true; the input reads as it did. -/
def proofOneSpec : ChangeSpec := { name := "proofOne", fn := fun _ => fun
  | [d1, d2, d3] => { results := [.lit (.bool true)], args := [d1, d2, d3] }
  | _ => none }
def proofOneRow : OpenClaim := { program := "ytndnlbinnhdmbaadoor", sum := "4c48e08d5708cfad73cec0af3066fecdf2d9f1b21de61c8b6a80846330bee440", func := "custumal/custumallaw15.ProofOne", spec := "proofOne", recurses := true, named := ["custumal/sha2.start", "custumal/sha2.rounds", "custumal/custumalref01.H", "custumal/custumalref01.K"], apart := false, laid := [("custumal/custumalref01.K", laid_custumal_custumalref01_K), ("custumal/custumalref01.H", laid_custumal_custumalref01_H), ("custumal/sha2.start", laid_custumal_sha2_start), ("custumal/sha2.rounds", laid_custumal_sha2_rounds)] }
def ProofOneSaid : Prop := proofOneRow.holds Tryd.pinned (OpenSpec.ofChange proofOneSpec)

/-- ITS FALSE NEIGHBOUR: 'it returns false'. Refute it at one input. -/
def proofOneWrong : ChangeSpec := { name := "proofOne", fn := fun _ => fun
  | [d1, d2, d3] => { results := [.lit (.bool false)], args := [d1, d2, d3] }
  | _ => none }
def ProofOneWrongFalsely : Prop := proofOneRow.holds Tryd.pinned (OpenSpec.ofChange proofOneWrong)

/-- 'custumallaw15.ProofBent': WHATEVER THE INPUT: true; the input reads as it did. -/
def proofBentSpec : ChangeSpec := { name := "proofBent", fn := fun _ => fun
  | [d1, d2, d3] => { results := [.lit (.bool true)], args := [d1, d2, d3] }
  | _ => none }
def proofBentRow : OpenClaim := { program := "ytndnlbinnhdmbaadoor", sum := "4c48e08d5708cfad73cec0af3066fecdf2d9f1b21de61c8b6a80846330bee440", func := "custumal/custumallaw15.ProofBent", spec := "proofBent", recurses := true, named := ["custumal/sha2.start", "custumal/sha2.rounds", "custumal/custumalref01.H", "custumal/custumalref01.K"], apart := false, laid := [("custumal/custumalref01.K", laid_custumal_custumalref01_K), ("custumal/custumalref01.H", laid_custumal_custumalref01_H), ("custumal/sha2.start", laid_custumal_sha2_start), ("custumal/sha2.rounds", laid_custumal_sha2_rounds)] }
def ProofBentSaid : Prop := proofBentRow.holds Tryd.pinned (OpenSpec.ofChange proofBentSpec)

/-- ITS FALSE NEIGHBOUR: 'it returns false'. Refute it at one input. -/
def proofBentWrong : ChangeSpec := { name := "proofBent", fn := fun _ => fun
  | [d1, d2, d3] => { results := [.lit (.bool false)], args := [d1, d2, d3] }
  | _ => none }
def ProofBentWrongFalsely : Prop := proofBentRow.holds Tryd.pinned (OpenSpec.ofChange proofBentWrong)

/-- 'custumallaw15.ProofBack': WHATEVER THE INPUT: true; the input reads as it did. -/
def proofBackSpec : ChangeSpec := { name := "proofBack", fn := fun _ => fun
  | [d1, d2] => { results := [.lit (.bool true)], args := [d1, d2] }
  | _ => none }
def proofBackRow : OpenClaim := { program := "ytndnlbinnhdmbaadoor", sum := "4c48e08d5708cfad73cec0af3066fecdf2d9f1b21de61c8b6a80846330bee440", func := "custumal/custumallaw15.ProofBack", spec := "proofBack", recurses := true, named := ["custumal/sha2.start", "custumal/sha2.rounds"], apart := false, laid := [("custumal/sha2.start", laid_custumal_sha2_start), ("custumal/sha2.rounds", laid_custumal_sha2_rounds)] }
def ProofBackSaid : Prop := proofBackRow.holds Tryd.pinned (OpenSpec.ofChange proofBackSpec)

/-- ITS FALSE NEIGHBOUR: 'it returns false'. Refute it at one input. -/
def proofBackWrong : ChangeSpec := { name := "proofBack", fn := fun _ => fun
  | [d1, d2] => { results := [.lit (.bool false)], args := [d1, d2] }
  | _ => none }
def ProofBackWrongFalsely : Prop := proofBackRow.holds Tryd.pinned (OpenSpec.ofChange proofBackWrong)

/-- 'custumallaw15.ProofShort': WHATEVER THE INPUT: true; the input reads as it did. -/
def proofShortSpec : ChangeSpec := { name := "proofShort", fn := fun _ => fun
  | [d1, d2] => { results := [.lit (.bool true)], args := [d1, d2] }
  | _ => none }
def proofShortRow : OpenClaim := { program := "ytndnlbinnhdmbaadoor", sum := "4c48e08d5708cfad73cec0af3066fecdf2d9f1b21de61c8b6a80846330bee440", func := "custumal/custumallaw15.ProofShort", spec := "proofShort", recurses := true, named := ["custumal/sha2.start", "custumal/sha2.rounds"], apart := false, laid := [("custumal/sha2.start", laid_custumal_sha2_start), ("custumal/sha2.rounds", laid_custumal_sha2_rounds)] }
def ProofShortSaid : Prop := proofShortRow.holds Tryd.pinned (OpenSpec.ofChange proofShortSpec)

/-- ITS FALSE NEIGHBOUR: 'it returns false'. Refute it at one input. -/
def proofShortWrong : ChangeSpec := { name := "proofShort", fn := fun _ => fun
  | [d1, d2] => { results := [.lit (.bool false)], args := [d1, d2] }
  | _ => none }
def ProofShortWrongFalsely : Prop := proofShortRow.holds Tryd.pinned (OpenSpec.ofChange proofShortWrong)

/-- 'custumallaw15.ProofBytes': WHATEVER THE INPUT: true; the input reads as it did. -/
def proofBytesSpec : ChangeSpec := { name := "proofBytes", fn := fun _ => fun
  | [d1, d2] => { results := [.lit (.bool true)], args := [d1, d2] }
  | _ => none }
def proofBytesRow : OpenClaim := { program := "ytndnlbinnhdmbaadoor", sum := "4c48e08d5708cfad73cec0af3066fecdf2d9f1b21de61c8b6a80846330bee440", func := "custumal/custumallaw15.ProofBytes", spec := "proofBytes", recurses := true, named := ["custumal/sha2.start", "custumal/sha2.rounds"], apart := false, laid := [("custumal/sha2.start", laid_custumal_sha2_start), ("custumal/sha2.rounds", laid_custumal_sha2_rounds)] }
def ProofBytesSaid : Prop := proofBytesRow.holds Tryd.pinned (OpenSpec.ofChange proofBytesSpec)

/-- ITS FALSE NEIGHBOUR: 'it returns false'. Refute it at one input. -/
def proofBytesWrong : ChangeSpec := { name := "proofBytes", fn := fun _ => fun
  | [d1, d2] => { results := [.lit (.bool false)], args := [d1, d2] }
  | _ => none }
def ProofBytesWrongFalsely : Prop := proofBytesRow.holds Tryd.pinned (OpenSpec.ofChange proofBytesWrong)

/- THE SECOND FORM. 'bulk': how many values and letters a reading holds, each counted each time it is reached (what is shared counts as often as it is met; a slice's spare places count too). A statement '..UptoSaid' is the law's where the arguments, and the package variables that the reading takes, are together of bulk at most 1048576: NARROWER than '..Said'. Prove '..Said' where nothing that the law and all that it calls make is longer than what came in: it says more and counts as full. Else prove '..UptoSaid'. A law counts once. -/
mutual
def uptoBulk {H : Type} : DataW H → Nat
  | .lit (.string bytes) => bytes.length + 1
  | .lit _ => 1
  | .nil => 1
  | .ptr d => uptoBulk d + 1
  | .slice elems spare => uptoBulkAll elems + uptoBulkAll spare + 1
  | .agg parts => uptoBulkAll parts + 1
  | .iface _ d => uptoBulk d + 1
  | .map entries => uptoBulkEntries entries + 1
  | .held _ => 1
def uptoBulkAll {H : Type} : List (DataW H) → Nat
  | [] => 0
  | d :: r => uptoBulk d + uptoBulkAll r
def uptoBulkEntries {H : Type} : List (Lit × DataW H) → Nat
  | [] => 0
  | x :: r => uptoBulkEntry x + uptoBulkEntries r
def uptoBulkEntry {H : Type} : Lit × DataW H → Nat
  | (.string bytes, d) => bytes.length + uptoBulk d + 1
  | (_, d) => uptoBulk d + 1
 end
def uptoSmall : (H : Type) → List (DataW H) → Bool := fun _ ds => decide (uptoBulkAll ds ≤ 1048576)
def OpenSpec.upto (s : _root_.Go.ChangeSpec) : _root_.Go.OpenSpec := { _root_.Go.OpenSpec.ofChange s with cond := some uptoSmall }

/-- 'custumallaw14.TreeSums', WHERE WHAT IT READS IS OF BULK AT MOST 1048576: true; the input reads as it did. -/
def treeSumsUptoRow : OpenClaim := { program := "ytndnlbinnhdmbaadoor", sum := "4c48e08d5708cfad73cec0af3066fecdf2d9f1b21de61c8b6a80846330bee440", func := "custumal/custumallaw14.TreeSums", spec := "treeSums", recurses := true, named := ["custumal/sha2.start", "custumal/sha2.rounds", "custumal/custumalref01.H", "custumal/custumalref01.K"], apart := false, laid := [("custumal/custumalref01.K", laid_custumal_custumalref01_K), ("custumal/custumalref01.H", laid_custumal_custumalref01_H), ("custumal/sha2.start", laid_custumal_sha2_start), ("custumal/sha2.rounds", laid_custumal_sha2_rounds)], narrowed := true }
def TreeSumsUptoSaid : Prop := treeSumsUptoRow.holds Tryd.pinned (OpenSpec.upto treeSumsSpec)

/-- 'custumallaw14.TreeRoots', WHERE WHAT IT READS IS OF BULK AT MOST 1048576: true; the input reads as it did. -/
def treeRootsUptoRow : OpenClaim := { program := "ytndnlbinnhdmbaadoor", sum := "4c48e08d5708cfad73cec0af3066fecdf2d9f1b21de61c8b6a80846330bee440", func := "custumal/custumallaw14.TreeRoots", spec := "treeRoots", recurses := true, named := ["custumal/sha2.start", "custumal/sha2.rounds", "custumal/custumalref01.H", "custumal/custumalref01.K"], apart := false, laid := [("custumal/custumalref01.K", laid_custumal_custumalref01_K), ("custumal/custumalref01.H", laid_custumal_custumalref01_H), ("custumal/sha2.start", laid_custumal_sha2_start), ("custumal/sha2.rounds", laid_custumal_sha2_rounds)], narrowed := true }
def TreeRootsUptoSaid : Prop := treeRootsUptoRow.holds Tryd.pinned (OpenSpec.upto treeRootsSpec)

/-- 'custumallaw14.TreeOrders', WHERE WHAT IT READS IS OF BULK AT MOST 1048576: true; the input reads as it did. -/
def treeOrdersUptoRow : OpenClaim := { program := "ytndnlbinnhdmbaadoor", sum := "4c48e08d5708cfad73cec0af3066fecdf2d9f1b21de61c8b6a80846330bee440", func := "custumal/custumallaw14.TreeOrders", spec := "treeOrders", recurses := true, named := ["custumal/sha2.start", "custumal/sha2.rounds", "custumal/custumalref01.H", "custumal/custumalref01.K"], apart := false, laid := [("custumal/custumalref01.K", laid_custumal_custumalref01_K), ("custumal/custumalref01.H", laid_custumal_custumalref01_H), ("custumal/sha2.start", laid_custumal_sha2_start), ("custumal/sha2.rounds", laid_custumal_sha2_rounds)], narrowed := true }
def TreeOrdersUptoSaid : Prop := treeOrdersUptoRow.holds Tryd.pinned (OpenSpec.upto treeOrdersSpec)

/-- 'custumallaw14.TreeStays', WHERE WHAT IT READS IS OF BULK AT MOST 1048576: true; the input reads as it did. -/
def treeStaysUptoRow : OpenClaim := { program := "ytndnlbinnhdmbaadoor", sum := "4c48e08d5708cfad73cec0af3066fecdf2d9f1b21de61c8b6a80846330bee440", func := "custumal/custumallaw14.TreeStays", spec := "treeStays", recurses := true, named := ["custumal/sha2.start", "custumal/sha2.rounds", "custumal/custumalref01.H", "custumal/custumalref01.K"], apart := false, laid := [("custumal/custumalref01.K", laid_custumal_custumalref01_K), ("custumal/custumalref01.H", laid_custumal_custumalref01_H), ("custumal/sha2.start", laid_custumal_sha2_start), ("custumal/sha2.rounds", laid_custumal_sha2_rounds)], narrowed := true }
def TreeStaysUptoSaid : Prop := treeStaysUptoRow.holds Tryd.pinned (OpenSpec.upto treeStaysSpec)

/-- 'custumallaw14.TreeGets', WHERE WHAT IT READS IS OF BULK AT MOST 1048576: true; the input reads as it did. -/
def treeGetsUptoRow : OpenClaim := { program := "ytndnlbinnhdmbaadoor", sum := "4c48e08d5708cfad73cec0af3066fecdf2d9f1b21de61c8b6a80846330bee440", func := "custumal/custumallaw14.TreeGets", spec := "treeGets", recurses := true, named := ["custumal/sha2.start", "custumal/sha2.rounds", "custumal/custumalref01.H", "custumal/custumalref01.K"], apart := false, laid := [("custumal/custumalref01.K", laid_custumal_custumalref01_K), ("custumal/custumalref01.H", laid_custumal_custumalref01_H), ("custumal/sha2.start", laid_custumal_sha2_start), ("custumal/sha2.rounds", laid_custumal_sha2_rounds)], narrowed := true }
def TreeGetsUptoSaid : Prop := treeGetsUptoRow.holds Tryd.pinned (OpenSpec.upto treeGetsSpec)

/-- 'custumallaw15.ProofChecks', WHERE WHAT IT READS IS OF BULK AT MOST 1048576: true; the input reads as it did. -/
def proofChecksUptoRow : OpenClaim := { program := "ytndnlbinnhdmbaadoor", sum := "4c48e08d5708cfad73cec0af3066fecdf2d9f1b21de61c8b6a80846330bee440", func := "custumal/custumallaw15.ProofChecks", spec := "proofChecks", recurses := true, named := ["custumal/custumalref01.H", "custumal/custumalref01.K", "custumal/sha2.start", "custumal/sha2.rounds"], apart := false, laid := [("custumal/custumalref01.K", laid_custumal_custumalref01_K), ("custumal/custumalref01.H", laid_custumal_custumalref01_H), ("custumal/sha2.start", laid_custumal_sha2_start), ("custumal/sha2.rounds", laid_custumal_sha2_rounds)], narrowed := true }
def ProofChecksUptoSaid : Prop := proofChecksUptoRow.holds Tryd.pinned (OpenSpec.upto proofChecksSpec)

/-- 'custumallaw15.ProofOne', WHERE WHAT IT READS IS OF BULK AT MOST 1048576: true; the input reads as it did. -/
def proofOneUptoRow : OpenClaim := { program := "ytndnlbinnhdmbaadoor", sum := "4c48e08d5708cfad73cec0af3066fecdf2d9f1b21de61c8b6a80846330bee440", func := "custumal/custumallaw15.ProofOne", spec := "proofOne", recurses := true, named := ["custumal/sha2.start", "custumal/sha2.rounds", "custumal/custumalref01.H", "custumal/custumalref01.K"], apart := false, laid := [("custumal/custumalref01.K", laid_custumal_custumalref01_K), ("custumal/custumalref01.H", laid_custumal_custumalref01_H), ("custumal/sha2.start", laid_custumal_sha2_start), ("custumal/sha2.rounds", laid_custumal_sha2_rounds)], narrowed := true }
def ProofOneUptoSaid : Prop := proofOneUptoRow.holds Tryd.pinned (OpenSpec.upto proofOneSpec)

/-- 'custumallaw15.ProofBent', WHERE WHAT IT READS IS OF BULK AT MOST 1048576: true; the input reads as it did. -/
def proofBentUptoRow : OpenClaim := { program := "ytndnlbinnhdmbaadoor", sum := "4c48e08d5708cfad73cec0af3066fecdf2d9f1b21de61c8b6a80846330bee440", func := "custumal/custumallaw15.ProofBent", spec := "proofBent", recurses := true, named := ["custumal/sha2.start", "custumal/sha2.rounds", "custumal/custumalref01.H", "custumal/custumalref01.K"], apart := false, laid := [("custumal/custumalref01.K", laid_custumal_custumalref01_K), ("custumal/custumalref01.H", laid_custumal_custumalref01_H), ("custumal/sha2.start", laid_custumal_sha2_start), ("custumal/sha2.rounds", laid_custumal_sha2_rounds)], narrowed := true }
def ProofBentUptoSaid : Prop := proofBentUptoRow.holds Tryd.pinned (OpenSpec.upto proofBentSpec)

/-- 'custumallaw15.ProofBack', WHERE WHAT IT READS IS OF BULK AT MOST 1048576: true; the input reads as it did. -/
def proofBackUptoRow : OpenClaim := { program := "ytndnlbinnhdmbaadoor", sum := "4c48e08d5708cfad73cec0af3066fecdf2d9f1b21de61c8b6a80846330bee440", func := "custumal/custumallaw15.ProofBack", spec := "proofBack", recurses := true, named := ["custumal/sha2.start", "custumal/sha2.rounds"], apart := false, laid := [("custumal/sha2.start", laid_custumal_sha2_start), ("custumal/sha2.rounds", laid_custumal_sha2_rounds)], narrowed := true }
def ProofBackUptoSaid : Prop := proofBackUptoRow.holds Tryd.pinned (OpenSpec.upto proofBackSpec)

/-- 'custumallaw15.ProofShort', WHERE WHAT IT READS IS OF BULK AT MOST 1048576: true; the input reads as it did. -/
def proofShortUptoRow : OpenClaim := { program := "ytndnlbinnhdmbaadoor", sum := "4c48e08d5708cfad73cec0af3066fecdf2d9f1b21de61c8b6a80846330bee440", func := "custumal/custumallaw15.ProofShort", spec := "proofShort", recurses := true, named := ["custumal/sha2.start", "custumal/sha2.rounds"], apart := false, laid := [("custumal/sha2.start", laid_custumal_sha2_start), ("custumal/sha2.rounds", laid_custumal_sha2_rounds)], narrowed := true }
def ProofShortUptoSaid : Prop := proofShortUptoRow.holds Tryd.pinned (OpenSpec.upto proofShortSpec)

/-- 'custumallaw15.ProofBytes', WHERE WHAT IT READS IS OF BULK AT MOST 1048576: true; the input reads as it did. -/
def proofBytesUptoRow : OpenClaim := { program := "ytndnlbinnhdmbaadoor", sum := "4c48e08d5708cfad73cec0af3066fecdf2d9f1b21de61c8b6a80846330bee440", func := "custumal/custumallaw15.ProofBytes", spec := "proofBytes", recurses := true, named := ["custumal/sha2.start", "custumal/sha2.rounds"], apart := false, laid := [("custumal/sha2.start", laid_custumal_sha2_start), ("custumal/sha2.rounds", laid_custumal_sha2_rounds)], narrowed := true }
def ProofBytesUptoSaid : Prop := proofBytesUptoRow.holds Tryd.pinned (OpenSpec.upto proofBytesSpec)

end Rows
end Go.Proofs.YtndnlbinnhdmbaaDoor
