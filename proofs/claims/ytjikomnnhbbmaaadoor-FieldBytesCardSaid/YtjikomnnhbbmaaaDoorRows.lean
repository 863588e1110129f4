/-
  NARROWER THAN 'FOR EVERY INPUT', by the rows' own cells (each row's printed sentence says how): FieldPowers: laid · FieldSums: laid · FieldRoots: laid · FieldLaws: laid · FieldBytes: laid.
  DERIVED. THE GIVEN ROWS OF THIS SEAT. 5 by the template 'for every input the law returns true; each argument reads behind the call as it read before'; 0 by the template 'total and deterministic' (their statements: YtjikomnnhbbmaaaDoorTotals.lean).
  GIVEN WITH THE SEED: the statements are not yours to turn. If you find one false, say at which input.
  Laid BY PROGRAM, IN A SANDBOX (cutbox-rows.mjs): the forced cells as the released guide's own fill.sh prints them over the translation 9d7e1459bfa05ca8… (all of the seat's roots in one cut). By AI agents, Wed Nov 11 2026. No macro, syntax, notation, axiom, sorry.
-/
import Derived.Test.YtjikomnnhbbmaaaDoorChecked
import GoSem.Claim
import GoSem.ClaimJoined
import GoSem.ClaimMapViews
import Derived.JoinedTies
import Derived.KernelRfl
namespace Go.Proofs.YtjikomnnhbbmaaaDoor
/- THE CELL 'sum', in the pinned program and in every row, IS THE sha256 OF THE DUMP (.gsa) THAT YtjikomnnhbbmaaaDoorProg.lean LOADS. Nothing in Lean hashes anything: it is a label: what it is worth is what the hold of that sum in a sandbox is worth. -/
noncomputable def Tryd.pinned : Pinned := { name := "ytjikomnnhbbmaaadoor", sum := "9d7e1459bfa05ca8a4568bf68a7ea0ac02ac86d142e7863ce0abfaa497f31d67", checked := Tryd.checked }
namespace Rows
def none {H : Type} : Left H := { results := [], args := [] }

/- WHAT THE LISTED PACKAGE-LEVEL VARIABLES READ AS WHEN THE CALL BEGINS. Each datum BY PROGRAM (the guide's laid-datum.mjs) off the statement by which the dump's own 'gosem.cut.vars' lays the variable. In a bare row this is a premise. The card (YtjikomnnhbbmaaaDoorCards.lean) ties it to the program's text. -/
def laid_custumal_field_modulus {H : Type} : DataW H := .agg [.lit (.int .u64 18446744073709551597), .lit (.int .u64 18446744073709551615), .lit (.int .u64 18446744073709551615), .lit (.int .u64 9223372036854775807)]
def laid_custumal_field_imaginary {H : Type} : DataW H := .agg [.lit (.int .u64 14190309331451158704), .lit (.int .u64 3405592160176694392), .lit (.int .u64 3120150775007532967), .lit (.int .u64 3135389899092516619)]

/-- 'custumallaw05.FieldPowers': WHATEVER THE INPUT: true; the input reads as it did. -/
def fieldPowersSpec : ChangeSpec := { name := "fieldPowers", fn := fun _ => fun
  | [d1, d2] => { results := [.lit (.bool true)], args := [d1, d2] }
  | _ => none }
def fieldPowersRow : OpenClaim := { program := "ytjikomnnhbbmaaadoor", sum := "9d7e1459bfa05ca8a4568bf68a7ea0ac02ac86d142e7863ce0abfaa497f31d67", func := "custumal/custumallaw05.FieldPowers", spec := "fieldPowers", inPlace := ["math/bits.Add64", "math/bits.Sub64"], named := ["custumal/field.modulus"], apart := false, laid := [("custumal/field.modulus", laid_custumal_field_modulus)] }
def FieldPowersSaid : Prop := fieldPowersRow.holds Tryd.pinned (OpenSpec.ofChange fieldPowersSpec)

/-- ITS FALSE NEIGHBOUR: 'it returns false'. Refute it at one input. -/
def fieldPowersWrong : ChangeSpec := { name := "fieldPowers", fn := fun _ => fun
  | [d1, d2] => { results := [.lit (.bool false)], args := [d1, d2] }
  | _ => none }
def FieldPowersWrongFalsely : Prop := fieldPowersRow.holds Tryd.pinned (OpenSpec.ofChange fieldPowersWrong)

/-- 'custumallaw05.FieldSums': WHATEVER THE INPUT: true; the input reads as it did. -/
def fieldSumsSpec : ChangeSpec := { name := "fieldSums", fn := fun _ => fun
  | [d1, d2] => { results := [.lit (.bool true)], args := [d1, d2] }
  | _ => none }
def fieldSumsRow : OpenClaim := { program := "ytjikomnnhbbmaaadoor", sum := "9d7e1459bfa05ca8a4568bf68a7ea0ac02ac86d142e7863ce0abfaa497f31d67", func := "custumal/custumallaw05.FieldSums", spec := "fieldSums", inPlace := ["math/bits.Add64", "math/bits.Sub64"], named := ["custumal/field.modulus"], apart := false, laid := [("custumal/field.modulus", laid_custumal_field_modulus)] }
def FieldSumsSaid : Prop := fieldSumsRow.holds Tryd.pinned (OpenSpec.ofChange fieldSumsSpec)

/-- ITS FALSE NEIGHBOUR: 'it returns false'. Refute it at one input. -/
def fieldSumsWrong : ChangeSpec := { name := "fieldSums", fn := fun _ => fun
  | [d1, d2] => { results := [.lit (.bool false)], args := [d1, d2] }
  | _ => none }
def FieldSumsWrongFalsely : Prop := fieldSumsRow.holds Tryd.pinned (OpenSpec.ofChange fieldSumsWrong)

/-- 'custumallaw05.FieldRoots': WHATEVER THE INPUT: true; the input reads as it did. -/
def fieldRootsSpec : ChangeSpec := { name := "fieldRoots", fn := fun _ => fun
  | [d1, d2] => { results := [.lit (.bool true)], args := [d1, d2] }
  | _ => none }
def fieldRootsRow : OpenClaim := { program := "ytjikomnnhbbmaaadoor", sum := "9d7e1459bfa05ca8a4568bf68a7ea0ac02ac86d142e7863ce0abfaa497f31d67", func := "custumal/custumallaw05.FieldRoots", spec := "fieldRoots", inPlace := ["math/bits.Add64", "math/bits.Sub64"], named := ["custumal/field.imaginary", "custumal/field.modulus"], apart := false, laid := [("custumal/field.modulus", laid_custumal_field_modulus), ("custumal/field.imaginary", laid_custumal_field_imaginary)] }
def FieldRootsSaid : Prop := fieldRootsRow.holds Tryd.pinned (OpenSpec.ofChange fieldRootsSpec)

/-- ITS FALSE NEIGHBOUR: 'it returns false'. Refute it at one input. -/
def fieldRootsWrong : ChangeSpec := { name := "fieldRoots", fn := fun _ => fun
  | [d1, d2] => { results := [.lit (.bool false)], args := [d1, d2] }
  | _ => none }
def FieldRootsWrongFalsely : Prop := fieldRootsRow.holds Tryd.pinned (OpenSpec.ofChange fieldRootsWrong)

/-- 'custumallaw05.FieldLaws': WHATEVER THE INPUT: true; the input reads as it did. -/
def fieldLawsSpec : ChangeSpec := { name := "fieldLaws", fn := fun _ => fun
  | [d1, d2, d3] => { results := [.lit (.bool true)], args := [d1, d2, d3] }
  | _ => none }
def fieldLawsRow : OpenClaim := { program := "ytjikomnnhbbmaaadoor", sum := "9d7e1459bfa05ca8a4568bf68a7ea0ac02ac86d142e7863ce0abfaa497f31d67", func := "custumal/custumallaw05.FieldLaws", spec := "fieldLaws", inPlace := ["math/bits.Add64", "math/bits.Sub64"], named := ["custumal/field.modulus", "custumal/field.imaginary"], apart := false, laid := [("custumal/field.modulus", laid_custumal_field_modulus), ("custumal/field.imaginary", laid_custumal_field_imaginary)] }
def FieldLawsSaid : Prop := fieldLawsRow.holds Tryd.pinned (OpenSpec.ofChange fieldLawsSpec)

/-- ITS FALSE NEIGHBOUR: 'it returns false'. Refute it at one input. -/
def fieldLawsWrong : ChangeSpec := { name := "fieldLaws", fn := fun _ => fun
  | [d1, d2, d3] => { results := [.lit (.bool false)], args := [d1, d2, d3] }
  | _ => none }
def FieldLawsWrongFalsely : Prop := fieldLawsRow.holds Tryd.pinned (OpenSpec.ofChange fieldLawsWrong)

/-- 'custumallaw05.FieldBytes': WHATEVER THE INPUT: true; the input reads as it did. -/
def fieldBytesSpec : ChangeSpec := { name := "fieldBytes", fn := fun _ => fun
  | [d1, d2, d3] => { results := [.lit (.bool true)], args := [d1, d2, d3] }
  | _ => none }
def fieldBytesRow : OpenClaim := { program := "ytjikomnnhbbmaaadoor", sum := "9d7e1459bfa05ca8a4568bf68a7ea0ac02ac86d142e7863ce0abfaa497f31d67", func := "custumal/custumallaw05.FieldBytes", spec := "fieldBytes", inPlace := ["math/bits.Sub64", "math/bits.Add64"], named := ["custumal/field.modulus"], apart := false, laid := [("custumal/field.modulus", laid_custumal_field_modulus)] }
def FieldBytesSaid : Prop := fieldBytesRow.holds Tryd.pinned (OpenSpec.ofChange fieldBytesSpec)

/-- ITS FALSE NEIGHBOUR: 'it returns false'. Refute it at one input. -/
def fieldBytesWrong : ChangeSpec := { name := "fieldBytes", fn := fun _ => fun
  | [d1, d2, d3] => { results := [.lit (.bool false)], args := [d1, d2, d3] }
  | _ => none }
def FieldBytesWrongFalsely : Prop := fieldBytesRow.holds Tryd.pinned (OpenSpec.ofChange fieldBytesWrong)

/- THE SECOND FORM. 'bulk': how many values and letters a reading holds, each counted each time it is reached (what is shared counts as often as it is met; a slice's spare places count too). A statement '..UptoSaid' is the law's where the arguments, and the package variables that the reading takes, are together of bulk at most 1048576: NARROWER than '..Said'. Prove '..Said' where nothing that the law and all that it calls make is longer than what came in: it says more and counts as full. Else prove '..UptoSaid'. A law counts once. -/
mutual
def uptoBulk {H : Type} : DataW H → Nat
  | .lit (.string bytes) => bytes.length + 1
  | .lit _ => 1
  | .nil => 1
  | .ptr d => uptoBulk d + 1
  | .slice elems spare => uptoBulkAll elems + uptoBulkAll spare + 1
  | .agg parts => uptoBulkAll parts + 1
  | .iface _ d => uptoBulk d + 1
  | .map entries => uptoBulkEntries entries + 1
  | .held _ => 1
def uptoBulkAll {H : Type} : List (DataW H) → Nat
  | [] => 0
  | d :: r => uptoBulk d + uptoBulkAll r
def uptoBulkEntries {H : Type} : List (Lit × DataW H) → Nat
  | [] => 0
  | x :: r => uptoBulkEntry x + uptoBulkEntries r
def uptoBulkEntry {H : Type} : Lit × DataW H → Nat
  | (.string bytes, d) => bytes.length + uptoBulk d + 1
  | (_, d) => uptoBulk d + 1
 end
def uptoSmall : (H : Type) → List (DataW H) → Bool := fun _ ds => decide (uptoBulkAll ds ≤ 1048576)
def OpenSpec.upto (s : _root_.Go.ChangeSpec) : _root_.Go.OpenSpec := { _root_.Go.OpenSpec.ofChange s with cond := some uptoSmall }

/-- 'custumallaw05.FieldPowers', WHERE WHAT IT READS IS OF BULK AT MOST 1048576: true; the input reads as it did. -/
def fieldPowersUptoRow : OpenClaim := { program := "ytjikomnnhbbmaaadoor", sum := "9d7e1459bfa05ca8a4568bf68a7ea0ac02ac86d142e7863ce0abfaa497f31d67", func := "custumal/custumallaw05.FieldPowers", spec := "fieldPowers", inPlace := ["math/bits.Add64", "math/bits.Sub64"], named := ["custumal/field.modulus"], apart := false, laid := [("custumal/field.modulus", laid_custumal_field_modulus)], narrowed := true }
def FieldPowersUptoSaid : Prop := fieldPowersUptoRow.holds Tryd.pinned (OpenSpec.upto fieldPowersSpec)

/-- 'custumallaw05.FieldSums', WHERE WHAT IT READS IS OF BULK AT MOST 1048576: true; the input reads as it did. -/
def fieldSumsUptoRow : OpenClaim := { program := "ytjikomnnhbbmaaadoor", sum := "9d7e1459bfa05ca8a4568bf68a7ea0ac02ac86d142e7863ce0abfaa497f31d67", func := "custumal/custumallaw05.FieldSums", spec := "fieldSums", inPlace := ["math/bits.Add64", "math/bits.Sub64"], named := ["custumal/field.modulus"], apart := false, laid := [("custumal/field.modulus", laid_custumal_field_modulus)], narrowed := true }
def FieldSumsUptoSaid : Prop := fieldSumsUptoRow.holds Tryd.pinned (OpenSpec.upto fieldSumsSpec)

/-- 'custumallaw05.FieldRoots', WHERE WHAT IT READS IS OF BULK AT MOST 1048576: true; the input reads as it did. -/
def fieldRootsUptoRow : OpenClaim := { program := "ytjikomnnhbbmaaadoor", sum := "9d7e1459bfa05ca8a4568bf68a7ea0ac02ac86d142e7863ce0abfaa497f31d67", func := "custumal/custumallaw05.FieldRoots", spec := "fieldRoots", inPlace := ["math/bits.Add64", "math/bits.Sub64"], named := ["custumal/field.imaginary", "custumal/field.modulus"], apart := false, laid := [("custumal/field.modulus", laid_custumal_field_modulus), ("custumal/field.imaginary", laid_custumal_field_imaginary)], narrowed := true }
def FieldRootsUptoSaid : Prop := fieldRootsUptoRow.holds Tryd.pinned (OpenSpec.upto fieldRootsSpec)

/-- 'custumallaw05.FieldLaws', WHERE WHAT IT READS IS OF BULK AT MOST 1048576: true; the input reads as it did. -/
def fieldLawsUptoRow : OpenClaim := { program := "ytjikomnnhbbmaaadoor", sum := "9d7e1459bfa05ca8a4568bf68a7ea0ac02ac86d142e7863ce0abfaa497f31d67", func := "custumal/custumallaw05.FieldLaws", spec := "fieldLaws", inPlace := ["math/bits.Add64", "math/bits.Sub64"], named := ["custumal/field.modulus", "custumal/field.imaginary"], apart := false, laid := [("custumal/field.modulus", laid_custumal_field_modulus), ("custumal/field.imaginary", laid_custumal_field_imaginary)], narrowed := true }
def FieldLawsUptoSaid : Prop := fieldLawsUptoRow.holds Tryd.pinned (OpenSpec.upto fieldLawsSpec)

/-- 'custumallaw05.FieldBytes', WHERE WHAT IT READS IS OF BULK AT MOST 1048576: true; the input reads as it did. -/
def fieldBytesUptoRow : OpenClaim := { program := "ytjikomnnhbbmaaadoor", sum := "9d7e1459bfa05ca8a4568bf68a7ea0ac02ac86d142e7863ce0abfaa497f31d67", func := "custumal/custumallaw05.FieldBytes", spec := "fieldBytes", inPlace := ["math/bits.Sub64", "math/bits.Add64"], named := ["custumal/field.modulus"], apart := false, laid := [("custumal/field.modulus", laid_custumal_field_modulus)], narrowed := true }
def FieldBytesUptoSaid : Prop := fieldBytesUptoRow.holds Tryd.pinned (OpenSpec.upto fieldBytesSpec)

end Rows
end Go.Proofs.YtjikomnnhbbmaaaDoor
