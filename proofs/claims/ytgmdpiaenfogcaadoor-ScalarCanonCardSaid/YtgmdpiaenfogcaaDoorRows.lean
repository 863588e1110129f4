/-
  NARROWER THAN 'FOR EVERY INPUT', by the rows' own cells (each row's printed sentence says how): ScalarOf: laid · ScalarCanon: laid · ScalarLaws: laid · ScalarSums: laid.
  DERIVED. THE GIVEN ROWS OF THIS SEAT. 4 by the template 'for every input the law returns true; each argument reads behind the call as it read before'; 0 by the template 'total and deterministic' (their statements: YtgmdpiaenfogcaaDoorTotals.lean).
  GIVEN WITH THE SEED: the statements are not yours to turn. If you find one false, say at which input.
  Laid BY PROGRAM, IN A SANDBOX (cutbox-rows.mjs): the forced cells as the released guide's own fill.sh prints them over the translation 1b4592647f640c7a… (all of the seat's roots in one cut). By AI agents, Wed Nov 11 2026. No macro, syntax, notation, axiom, sorry.
-/
import Derived.Test.YtgmdpiaenfogcaaDoorChecked
import GoSem.Claim
import GoSem.ClaimJoined
import GoSem.ClaimMapViews
import Derived.JoinedTies
import Derived.KernelRfl
namespace Go.Proofs.YtgmdpiaenfogcaaDoor
/- THE CELL 'sum', in the pinned program and in every row, IS THE sha256 OF THE DUMP (.gsa) THAT YtgmdpiaenfogcaaDoorProg.lean LOADS. Nothing in Lean hashes anything: it is a label: what it is worth is what the hold of that sum in a sandbox is worth. -/
noncomputable def Tryd.pinned : Pinned := { name := "ytgmdpiaenfogcaadoor", sum := "1b4592647f640c7ace44abe69732b10c61f33558c2cdcd7d1728978b2ed3dc8f", checked := Tryd.checked }
namespace Rows
def none {H : Type} : Left H := { results := [], args := [] }

/- WHAT THE LISTED PACKAGE-LEVEL VARIABLES READ AS WHEN THE CALL BEGINS. Each datum BY PROGRAM (the guide's laid-datum.mjs) off the statement by which the dump's own 'gosem.cut.vars' lays the variable. In a bare row this is a premise. The card (YtgmdpiaenfogcaaDoorCards.lean) ties it to the program's text. -/
def laid_custumal_scalar_order {H : Type} : DataW H := .agg [.lit (.int .u64 6346243789798364141), .lit (.int .u64 1503914060200516822), .lit (.int .u64 0), .lit (.int .u64 1152921504606846976)]

/-- 'custumallaw06.ScalarOf': WHATEVER THE INPUT: true; the input reads as it did. -/
def scalarOfSpec : ChangeSpec := { name := "scalarOf", fn := fun _ => fun
  | [d] => { results := [.lit (.bool true)], args := [d] }
  | _ => none }
def scalarOfRow : OpenClaim := { program := "ytgmdpiaenfogcaadoor", sum := "1b4592647f640c7ace44abe69732b10c61f33558c2cdcd7d1728978b2ed3dc8f", func := "custumal/custumallaw06.ScalarOf", spec := "scalarOf", inPlace := ["math/bits.Sub64", "math/bits.Add64"], named := ["custumal/scalar.order"], apart := false, laid := [("custumal/scalar.order", laid_custumal_scalar_order)] }
def ScalarOfSaid : Prop := scalarOfRow.holds Tryd.pinned (OpenSpec.ofChange scalarOfSpec)

/-- ITS FALSE NEIGHBOUR: 'it returns false'. Refute it at one input. -/
def scalarOfWrong : ChangeSpec := { name := "scalarOf", fn := fun _ => fun
  | [d] => { results := [.lit (.bool false)], args := [d] }
  | _ => none }
def ScalarOfWrongFalsely : Prop := scalarOfRow.holds Tryd.pinned (OpenSpec.ofChange scalarOfWrong)

/-- 'custumallaw06.ScalarCanon': WHATEVER THE INPUT: true; the input reads as it did. -/
def scalarCanonSpec : ChangeSpec := { name := "scalarCanon", fn := fun _ => fun
  | [d1, d2] => { results := [.lit (.bool true)], args := [d1, d2] }
  | _ => none }
def scalarCanonRow : OpenClaim := { program := "ytgmdpiaenfogcaadoor", sum := "1b4592647f640c7ace44abe69732b10c61f33558c2cdcd7d1728978b2ed3dc8f", func := "custumal/custumallaw06.ScalarCanon", spec := "scalarCanon", inPlace := ["math/bits.Sub64", "math/bits.Add64"], named := ["custumal/scalar.order"], apart := false, laid := [("custumal/scalar.order", laid_custumal_scalar_order)] }
def ScalarCanonSaid : Prop := scalarCanonRow.holds Tryd.pinned (OpenSpec.ofChange scalarCanonSpec)

/-- ITS FALSE NEIGHBOUR: 'it returns false'. Refute it at one input. -/
def scalarCanonWrong : ChangeSpec := { name := "scalarCanon", fn := fun _ => fun
  | [d1, d2] => { results := [.lit (.bool false)], args := [d1, d2] }
  | _ => none }
def ScalarCanonWrongFalsely : Prop := scalarCanonRow.holds Tryd.pinned (OpenSpec.ofChange scalarCanonWrong)

/-- 'custumallaw06.ScalarLaws': WHATEVER THE INPUT: true; the input reads as it did. -/
def scalarLawsSpec : ChangeSpec := { name := "scalarLaws", fn := fun _ => fun
  | [d1, d2, d3] => { results := [.lit (.bool true)], args := [d1, d2, d3] }
  | _ => none }
def scalarLawsRow : OpenClaim := { program := "ytgmdpiaenfogcaadoor", sum := "1b4592647f640c7ace44abe69732b10c61f33558c2cdcd7d1728978b2ed3dc8f", func := "custumal/custumallaw06.ScalarLaws", spec := "scalarLaws", inPlace := ["math/bits.Sub64", "math/bits.Add64"], named := ["custumal/scalar.order"], apart := false, laid := [("custumal/scalar.order", laid_custumal_scalar_order)] }
def ScalarLawsSaid : Prop := scalarLawsRow.holds Tryd.pinned (OpenSpec.ofChange scalarLawsSpec)

/-- ITS FALSE NEIGHBOUR: 'it returns false'. Refute it at one input. -/
def scalarLawsWrong : ChangeSpec := { name := "scalarLaws", fn := fun _ => fun
  | [d1, d2, d3] => { results := [.lit (.bool false)], args := [d1, d2, d3] }
  | _ => none }
def ScalarLawsWrongFalsely : Prop := scalarLawsRow.holds Tryd.pinned (OpenSpec.ofChange scalarLawsWrong)

/-- 'custumallaw06.ScalarSums': WHATEVER THE INPUT: true; the input reads as it did. -/
def scalarSumsSpec : ChangeSpec := { name := "scalarSums", fn := fun _ => fun
  | [d1, d2] => { results := [.lit (.bool true)], args := [d1, d2] }
  | _ => none }
def scalarSumsRow : OpenClaim := { program := "ytgmdpiaenfogcaadoor", sum := "1b4592647f640c7ace44abe69732b10c61f33558c2cdcd7d1728978b2ed3dc8f", func := "custumal/custumallaw06.ScalarSums", spec := "scalarSums", inPlace := ["math/bits.Sub64", "math/bits.Add64"], named := ["custumal/scalar.order"], apart := false, laid := [("custumal/scalar.order", laid_custumal_scalar_order)] }
def ScalarSumsSaid : Prop := scalarSumsRow.holds Tryd.pinned (OpenSpec.ofChange scalarSumsSpec)

/-- ITS FALSE NEIGHBOUR: 'it returns false'. Refute it at one input. -/
def scalarSumsWrong : ChangeSpec := { name := "scalarSums", fn := fun _ => fun
  | [d1, d2] => { results := [.lit (.bool false)], args := [d1, d2] }
  | _ => none }
def ScalarSumsWrongFalsely : Prop := scalarSumsRow.holds Tryd.pinned (OpenSpec.ofChange scalarSumsWrong)

/- THE SECOND FORM. 'bulk': how many values and letters a reading holds, each counted each time it is reached (what is shared counts as often as it is met; a slice's spare places count too). A statement '..UptoSaid' is the law's where the arguments, and the package variables that the reading takes, are together of bulk at most 1048576: NARROWER than '..Said'. Prove '..Said' where nothing that the law and all that it calls make is longer than what came in: it says more and counts as full. Else prove '..UptoSaid'. A law counts once. -/
mutual
def uptoBulk {H : Type} : DataW H → Nat
  | .lit (.string bytes) => bytes.length + 1
  | .lit _ => 1
  | .nil => 1
  | .ptr d => uptoBulk d + 1
  | .slice elems spare => uptoBulkAll elems + uptoBulkAll spare + 1
  | .agg parts => uptoBulkAll parts + 1
  | .iface _ d => uptoBulk d + 1
  | .map entries => uptoBulkEntries entries + 1
  | .held _ => 1
def uptoBulkAll {H : Type} : List (DataW H) → Nat
  | [] => 0
  | d :: r => uptoBulk d + uptoBulkAll r
def uptoBulkEntries {H : Type} : List (Lit × DataW H) → Nat
  | [] => 0
  | x :: r => uptoBulkEntry x + uptoBulkEntries r
def uptoBulkEntry {H : Type} : Lit × DataW H → Nat
  | (.string bytes, d) => bytes.length + uptoBulk d + 1
  | (_, d) => uptoBulk d + 1
 end
def uptoSmall : (H : Type) → List (DataW H) → Bool := fun _ ds => decide (uptoBulkAll ds ≤ 1048576)
def OpenSpec.upto (s : _root_.Go.ChangeSpec) : _root_.Go.OpenSpec := { _root_.Go.OpenSpec.ofChange s with cond := some uptoSmall }

/-- 'custumallaw06.ScalarOf', WHERE WHAT IT READS IS OF BULK AT MOST 1048576: true; the input reads as it did. -/
def scalarOfUptoRow : OpenClaim := { program := "ytgmdpiaenfogcaadoor", sum := "1b4592647f640c7ace44abe69732b10c61f33558c2cdcd7d1728978b2ed3dc8f", func := "custumal/custumallaw06.ScalarOf", spec := "scalarOf", inPlace := ["math/bits.Sub64", "math/bits.Add64"], named := ["custumal/scalar.order"], apart := false, laid := [("custumal/scalar.order", laid_custumal_scalar_order)], narrowed := true }
def ScalarOfUptoSaid : Prop := scalarOfUptoRow.holds Tryd.pinned (OpenSpec.upto scalarOfSpec)

/-- 'custumallaw06.ScalarCanon', WHERE WHAT IT READS IS OF BULK AT MOST 1048576: true; the input reads as it did. -/
def scalarCanonUptoRow : OpenClaim := { program := "ytgmdpiaenfogcaadoor", sum := "1b4592647f640c7ace44abe69732b10c61f33558c2cdcd7d1728978b2ed3dc8f", func := "custumal/custumallaw06.ScalarCanon", spec := "scalarCanon", inPlace := ["math/bits.Sub64", "math/bits.Add64"], named := ["custumal/scalar.order"], apart := false, laid := [("custumal/scalar.order", laid_custumal_scalar_order)], narrowed := true }
def ScalarCanonUptoSaid : Prop := scalarCanonUptoRow.holds Tryd.pinned (OpenSpec.upto scalarCanonSpec)

/-- 'custumallaw06.ScalarLaws', WHERE WHAT IT READS IS OF BULK AT MOST 1048576: true; the input reads as it did. -/
def scalarLawsUptoRow : OpenClaim := { program := "ytgmdpiaenfogcaadoor", sum := "1b4592647f640c7ace44abe69732b10c61f33558c2cdcd7d1728978b2ed3dc8f", func := "custumal/custumallaw06.ScalarLaws", spec := "scalarLaws", inPlace := ["math/bits.Sub64", "math/bits.Add64"], named := ["custumal/scalar.order"], apart := false, laid := [("custumal/scalar.order", laid_custumal_scalar_order)], narrowed := true }
def ScalarLawsUptoSaid : Prop := scalarLawsUptoRow.holds Tryd.pinned (OpenSpec.upto scalarLawsSpec)

/-- 'custumallaw06.ScalarSums', WHERE WHAT IT READS IS OF BULK AT MOST 1048576: true; the input reads as it did. -/
def scalarSumsUptoRow : OpenClaim := { program := "ytgmdpiaenfogcaadoor", sum := "1b4592647f640c7ace44abe69732b10c61f33558c2cdcd7d1728978b2ed3dc8f", func := "custumal/custumallaw06.ScalarSums", spec := "scalarSums", inPlace := ["math/bits.Sub64", "math/bits.Add64"], named := ["custumal/scalar.order"], apart := false, laid := [("custumal/scalar.order", laid_custumal_scalar_order)], narrowed := true }
def ScalarSumsUptoSaid : Prop := scalarSumsUptoRow.holds Tryd.pinned (OpenSpec.upto scalarSumsSpec)

end Rows
end Go.Proofs.YtgmdpiaenfogcaaDoor
