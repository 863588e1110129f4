/-
  NARROWER THAN 'FOR EVERY INPUT', by the rows' own cells (each row's printed sentence says how): EdwardsLaws: laid · EdwardsDecodes: laid · EdwardsTimes: laid · EdwardsAdds: laid.
  DERIVED. THE GIVEN ROWS OF THIS SEAT. 4 by the template 'for every input the law returns true; each argument reads behind the call as it read before'; 0 by the template 'total and deterministic' (their statements: YtghajiagbfcmdaaDoorTotals.lean).
  GIVEN WITH THE SEED: the statements are not yours to turn. If you find one false, say at which input.
  Laid BY PROGRAM, IN A SANDBOX (cutbox-rows.mjs): the forced cells as the released guide's own fill.sh prints them over the translation ce0e8fbf1025e4ab… (all of the seat's roots in one cut). By AI agents, Wed Nov 11 2026. No macro, syntax, notation, axiom, sorry.
-/
import Derived.Test.YtghajiagbfcmdaaDoorChecked
import GoSem.Claim
import GoSem.ClaimJoined
import GoSem.ClaimMapViews
import Derived.JoinedTies
import Derived.KernelRfl
namespace Go.Proofs.YtghajiagbfcmdaaDoor
/- THE CELL 'sum', in the pinned program and in every row, IS THE sha256 OF THE DUMP (.gsa) THAT YtghajiagbfcmdaaDoorProg.lean LOADS. Nothing in Lean hashes anything: it is a label: what it is worth is what the hold of that sum in a sandbox is worth. -/
noncomputable def Tryd.pinned : Pinned := { name := "ytghajiagbfcmdaadoor", sum := "ce0e8fbf1025e4ab2a0cb64e170300821666b6d1bf78d85ef918394d3aabb122", checked := Tryd.checked }
namespace Rows
def none {H : Type} : Left H := { results := [], args := [] }

/- WHAT THE LISTED PACKAGE-LEVEL VARIABLES READ AS WHEN THE CALL BEGINS. Each datum BY PROGRAM (the guide's laid-datum.mjs) off the statement by which the dump's own 'gosem.cut.vars' lays the variable. In a bare row this is a premise. The card (YtghajiagbfcmdaaDoorCards.lean) ties it to the program's text. -/
def laid_custumal_field_modulus {H : Type} : DataW H := .agg [.lit (.int .u64 18446744073709551597), .lit (.int .u64 18446744073709551615), .lit (.int .u64 18446744073709551615), .lit (.int .u64 9223372036854775807)]
def laid_custumal_edwards_double {H : Type} : DataW H := .agg [.lit (.int .u64 16993941304535871833), .lit (.int .u64 63073048630374742), .lit (.int .u64 1841551078520508720), .lit (.int .u64 2596001775599221991)]
def laid_custumal_edwards_baseX {H : Type} : DataW H := .agg [.lit (.int .u64 14507833142362363162), .lit (.int .u64 7578651490590762930), .lit (.int .u64 13881468655802702940), .lit (.int .u64 2407515759118799870)]
def laid_custumal_edwards_baseY {H : Type} : DataW H := .agg [.lit (.int .u64 7378697629483820632), .lit (.int .u64 7378697629483820646), .lit (.int .u64 7378697629483820646), .lit (.int .u64 7378697629483820646)]
def laid_custumal_field_imaginary {H : Type} : DataW H := .agg [.lit (.int .u64 14190309331451158704), .lit (.int .u64 3405592160176694392), .lit (.int .u64 3120150775007532967), .lit (.int .u64 3135389899092516619)]
def laid_custumal_edwards_curve {H : Type} : DataW H := .agg [.lit (.int .u64 8496970652267935907), .lit (.int .u64 31536524315187371), .lit (.int .u64 10144147576115030168), .lit (.int .u64 5909686906226998899)]

/-- 'custumallaw07.EdwardsLaws': WHATEVER THE INPUT: true; the input reads as it did. -/
def edwardsLawsSpec : ChangeSpec := { name := "edwardsLaws", fn := fun _ => fun
  | [d1, d2] => { results := [.lit (.bool true)], args := [d1, d2] }
  | _ => none }
def edwardsLawsRow : OpenClaim := { program := "ytghajiagbfcmdaadoor", sum := "ce0e8fbf1025e4ab2a0cb64e170300821666b6d1bf78d85ef918394d3aabb122", func := "custumal/custumallaw07.EdwardsLaws", spec := "edwardsLaws", inPlace := ["math/bits.Add64", "math/bits.Sub64"], named := ["custumal/edwards.baseX", "custumal/edwards.baseY", "custumal/field.modulus", "custumal/edwards.double"], apart := false, laid := [("custumal/field.modulus", laid_custumal_field_modulus), ("custumal/edwards.double", laid_custumal_edwards_double), ("custumal/edwards.baseX", laid_custumal_edwards_baseX), ("custumal/edwards.baseY", laid_custumal_edwards_baseY)] }
def EdwardsLawsSaid : Prop := edwardsLawsRow.holds Tryd.pinned (OpenSpec.ofChange edwardsLawsSpec)

/-- ITS FALSE NEIGHBOUR: 'it returns false'. Refute it at one input. -/
def edwardsLawsWrong : ChangeSpec := { name := "edwardsLaws", fn := fun _ => fun
  | [d1, d2] => { results := [.lit (.bool false)], args := [d1, d2] }
  | _ => none }
def EdwardsLawsWrongFalsely : Prop := edwardsLawsRow.holds Tryd.pinned (OpenSpec.ofChange edwardsLawsWrong)

/-- 'custumallaw07.EdwardsDecodes': WHATEVER THE INPUT: true; the input reads as it did. -/
def edwardsDecodesSpec : ChangeSpec := { name := "edwardsDecodes", fn := fun _ => fun
  | [d] => { results := [.lit (.bool true)], args := [d] }
  | _ => none }
def edwardsDecodesRow : OpenClaim := { program := "ytghajiagbfcmdaadoor", sum := "ce0e8fbf1025e4ab2a0cb64e170300821666b6d1bf78d85ef918394d3aabb122", func := "custumal/custumallaw07.EdwardsDecodes", spec := "edwardsDecodes", inPlace := ["math/bits.Sub64", "math/bits.Add64"], named := ["custumal/edwards.curve", "custumal/field.modulus", "custumal/field.imaginary", "custumal/edwards.baseX", "custumal/edwards.baseY"], apart := false, laid := [("custumal/field.modulus", laid_custumal_field_modulus), ("custumal/field.imaginary", laid_custumal_field_imaginary), ("custumal/edwards.curve", laid_custumal_edwards_curve), ("custumal/edwards.baseX", laid_custumal_edwards_baseX), ("custumal/edwards.baseY", laid_custumal_edwards_baseY)] }
def EdwardsDecodesSaid : Prop := edwardsDecodesRow.holds Tryd.pinned (OpenSpec.ofChange edwardsDecodesSpec)

/-- ITS FALSE NEIGHBOUR: 'it returns false'. Refute it at one input. -/
def edwardsDecodesWrong : ChangeSpec := { name := "edwardsDecodes", fn := fun _ => fun
  | [d] => { results := [.lit (.bool false)], args := [d] }
  | _ => none }
def EdwardsDecodesWrongFalsely : Prop := edwardsDecodesRow.holds Tryd.pinned (OpenSpec.ofChange edwardsDecodesWrong)

/-- 'custumallaw07.EdwardsTimes': WHATEVER THE INPUT: true; the input reads as it did. -/
def edwardsTimesSpec : ChangeSpec := { name := "edwardsTimes", fn := fun _ => fun
  | [d1, d2, d3] => { results := [.lit (.bool true)], args := [d1, d2, d3] }
  | _ => none }
def edwardsTimesRow : OpenClaim := { program := "ytghajiagbfcmdaadoor", sum := "ce0e8fbf1025e4ab2a0cb64e170300821666b6d1bf78d85ef918394d3aabb122", func := "custumal/custumallaw07.EdwardsTimes", spec := "edwardsTimes", inPlace := ["math/bits.Add64", "math/bits.Sub64"], named := ["custumal/edwards.baseX", "custumal/edwards.baseY", "custumal/field.modulus", "custumal/edwards.double", "custumal/edwards.curve", "custumal/field.imaginary"], apart := false, laid := [("custumal/field.modulus", laid_custumal_field_modulus), ("custumal/field.imaginary", laid_custumal_field_imaginary), ("custumal/edwards.curve", laid_custumal_edwards_curve), ("custumal/edwards.double", laid_custumal_edwards_double), ("custumal/edwards.baseX", laid_custumal_edwards_baseX), ("custumal/edwards.baseY", laid_custumal_edwards_baseY)] }
def EdwardsTimesSaid : Prop := edwardsTimesRow.holds Tryd.pinned (OpenSpec.ofChange edwardsTimesSpec)

/-- ITS FALSE NEIGHBOUR: 'it returns false'. Refute it at one input. -/
def edwardsTimesWrong : ChangeSpec := { name := "edwardsTimes", fn := fun _ => fun
  | [d1, d2, d3] => { results := [.lit (.bool false)], args := [d1, d2, d3] }
  | _ => none }
def EdwardsTimesWrongFalsely : Prop := edwardsTimesRow.holds Tryd.pinned (OpenSpec.ofChange edwardsTimesWrong)

/-- 'custumallaw07.EdwardsAdds': WHATEVER THE INPUT: true; the input reads as it did. -/
def edwardsAddsSpec : ChangeSpec := { name := "edwardsAdds", fn := fun _ => fun
  | [d1, d2, d3] => { results := [.lit (.bool true)], args := [d1, d2, d3] }
  | _ => none }
def edwardsAddsRow : OpenClaim := { program := "ytghajiagbfcmdaadoor", sum := "ce0e8fbf1025e4ab2a0cb64e170300821666b6d1bf78d85ef918394d3aabb122", func := "custumal/custumallaw07.EdwardsAdds", spec := "edwardsAdds", inPlace := ["math/bits.Add64", "math/bits.Sub64"], named := ["custumal/edwards.baseX", "custumal/edwards.baseY", "custumal/field.modulus", "custumal/edwards.double", "custumal/edwards.curve", "custumal/field.imaginary"], apart := false, laid := [("custumal/field.modulus", laid_custumal_field_modulus), ("custumal/field.imaginary", laid_custumal_field_imaginary), ("custumal/edwards.curve", laid_custumal_edwards_curve), ("custumal/edwards.double", laid_custumal_edwards_double), ("custumal/edwards.baseX", laid_custumal_edwards_baseX), ("custumal/edwards.baseY", laid_custumal_edwards_baseY)] }
def EdwardsAddsSaid : Prop := edwardsAddsRow.holds Tryd.pinned (OpenSpec.ofChange edwardsAddsSpec)

/-- ITS FALSE NEIGHBOUR: 'it returns false'. Refute it at one input. -/
def edwardsAddsWrong : ChangeSpec := { name := "edwardsAdds", fn := fun _ => fun
  | [d1, d2, d3] => { results := [.lit (.bool false)], args := [d1, d2, d3] }
  | _ => none }
def EdwardsAddsWrongFalsely : Prop := edwardsAddsRow.holds Tryd.pinned (OpenSpec.ofChange edwardsAddsWrong)

/- THE SECOND FORM. 'bulk': how many values and letters a reading holds, each counted each time it is reached (what is shared counts as often as it is met; a slice's spare places count too). A statement '..UptoSaid' is the law's where the arguments, and the package variables that the reading takes, are together of bulk at most 1048576: NARROWER than '..Said'. Prove '..Said' where nothing that the law and all that it calls make is longer than what came in: it says more and counts as full. Else prove '..UptoSaid'. A law counts once. -/
mutual
def uptoBulk {H : Type} : DataW H → Nat
  | .lit (.string bytes) => bytes.length + 1
  | .lit _ => 1
  | .nil => 1
  | .ptr d => uptoBulk d + 1
  | .slice elems spare => uptoBulkAll elems + uptoBulkAll spare + 1
  | .agg parts => uptoBulkAll parts + 1
  | .iface _ d => uptoBulk d + 1
  | .map entries => uptoBulkEntries entries + 1
  | .held _ => 1
def uptoBulkAll {H : Type} : List (DataW H) → Nat
  | [] => 0
  | d :: r => uptoBulk d + uptoBulkAll r
def uptoBulkEntries {H : Type} : List (Lit × DataW H) → Nat
  | [] => 0
  | x :: r => uptoBulkEntry x + uptoBulkEntries r
def uptoBulkEntry {H : Type} : Lit × DataW H → Nat
  | (.string bytes, d) => bytes.length + uptoBulk d + 1
  | (_, d) => uptoBulk d + 1
 end
def uptoSmall : (H : Type) → List (DataW H) → Bool := fun _ ds => decide (uptoBulkAll ds ≤ 1048576)
def OpenSpec.upto (s : _root_.Go.ChangeSpec) : _root_.Go.OpenSpec := { _root_.Go.OpenSpec.ofChange s with cond := some uptoSmall }

/-- 'custumallaw07.EdwardsLaws', WHERE WHAT IT READS IS OF BULK AT MOST 1048576: true; the input reads as it did. -/
def edwardsLawsUptoRow : OpenClaim := { program := "ytghajiagbfcmdaadoor", sum := "ce0e8fbf1025e4ab2a0cb64e170300821666b6d1bf78d85ef918394d3aabb122", func := "custumal/custumallaw07.EdwardsLaws", spec := "edwardsLaws", inPlace := ["math/bits.Add64", "math/bits.Sub64"], named := ["custumal/edwards.baseX", "custumal/edwards.baseY", "custumal/field.modulus", "custumal/edwards.double"], apart := false, laid := [("custumal/field.modulus", laid_custumal_field_modulus), ("custumal/edwards.double", laid_custumal_edwards_double), ("custumal/edwards.baseX", laid_custumal_edwards_baseX), ("custumal/edwards.baseY", laid_custumal_edwards_baseY)], narrowed := true }
def EdwardsLawsUptoSaid : Prop := edwardsLawsUptoRow.holds Tryd.pinned (OpenSpec.upto edwardsLawsSpec)

/-- 'custumallaw07.EdwardsDecodes', WHERE WHAT IT READS IS OF BULK AT MOST 1048576: true; the input reads as it did. -/
def edwardsDecodesUptoRow : OpenClaim := { program := "ytghajiagbfcmdaadoor", sum := "ce0e8fbf1025e4ab2a0cb64e170300821666b6d1bf78d85ef918394d3aabb122", func := "custumal/custumallaw07.EdwardsDecodes", spec := "edwardsDecodes", inPlace := ["math/bits.Sub64", "math/bits.Add64"], named := ["custumal/edwards.curve", "custumal/field.modulus", "custumal/field.imaginary", "custumal/edwards.baseX", "custumal/edwards.baseY"], apart := false, laid := [("custumal/field.modulus", laid_custumal_field_modulus), ("custumal/field.imaginary", laid_custumal_field_imaginary), ("custumal/edwards.curve", laid_custumal_edwards_curve), ("custumal/edwards.baseX", laid_custumal_edwards_baseX), ("custumal/edwards.baseY", laid_custumal_edwards_baseY)], narrowed := true }
def EdwardsDecodesUptoSaid : Prop := edwardsDecodesUptoRow.holds Tryd.pinned (OpenSpec.upto edwardsDecodesSpec)

/-- 'custumallaw07.EdwardsTimes', WHERE WHAT IT READS IS OF BULK AT MOST 1048576: true; the input reads as it did. -/
def edwardsTimesUptoRow : OpenClaim := { program := "ytghajiagbfcmdaadoor", sum := "ce0e8fbf1025e4ab2a0cb64e170300821666b6d1bf78d85ef918394d3aabb122", func := "custumal/custumallaw07.EdwardsTimes", spec := "edwardsTimes", inPlace := ["math/bits.Add64", "math/bits.Sub64"], named := ["custumal/edwards.baseX", "custumal/edwards.baseY", "custumal/field.modulus", "custumal/edwards.double", "custumal/edwards.curve", "custumal/field.imaginary"], apart := false, laid := [("custumal/field.modulus", laid_custumal_field_modulus), ("custumal/field.imaginary", laid_custumal_field_imaginary), ("custumal/edwards.curve", laid_custumal_edwards_curve), ("custumal/edwards.double", laid_custumal_edwards_double), ("custumal/edwards.baseX", laid_custumal_edwards_baseX), ("custumal/edwards.baseY", laid_custumal_edwards_baseY)], narrowed := true }
def EdwardsTimesUptoSaid : Prop := edwardsTimesUptoRow.holds Tryd.pinned (OpenSpec.upto edwardsTimesSpec)

/-- 'custumallaw07.EdwardsAdds', WHERE WHAT IT READS IS OF BULK AT MOST 1048576: true; the input reads as it did. -/
def edwardsAddsUptoRow : OpenClaim := { program := "ytghajiagbfcmdaadoor", sum := "ce0e8fbf1025e4ab2a0cb64e170300821666b6d1bf78d85ef918394d3aabb122", func := "custumal/custumallaw07.EdwardsAdds", spec := "edwardsAdds", inPlace := ["math/bits.Add64", "math/bits.Sub64"], named := ["custumal/edwards.baseX", "custumal/edwards.baseY", "custumal/field.modulus", "custumal/edwards.double", "custumal/edwards.curve", "custumal/field.imaginary"], apart := false, laid := [("custumal/field.modulus", laid_custumal_field_modulus), ("custumal/field.imaginary", laid_custumal_field_imaginary), ("custumal/edwards.curve", laid_custumal_edwards_curve), ("custumal/edwards.double", laid_custumal_edwards_double), ("custumal/edwards.baseX", laid_custumal_edwards_baseX), ("custumal/edwards.baseY", laid_custumal_edwards_baseY)], narrowed := true }
def EdwardsAddsUptoSaid : Prop := edwardsAddsUptoRow.holds Tryd.pinned (OpenSpec.upto edwardsAddsSpec)

end Rows
end Go.Proofs.YtghajiagbfcmdaaDoor
