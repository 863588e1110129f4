/- A drawn region whose first operations yield one value (some of them, that look at no world, may come late); the others are forced. No conditions. wire: the document's bytes of a request; the law's tame and to. Conditions: memory holds what is written. The laws of layer 24: tame, to. Conditions: memory holds what is written. -/
import Derived.Test.YtlbgelbhhibikaaJ6
import Derived.Test.YtlbgelbhhibikaaWb
set_option linter.unusedSimpArgs false
set_option linter.unusedVariables false
namespace Go.Proofs.Ytlbgelbhhibikaa
open Go.RowKit
attribute [local irreducible] wpList wpTr wpX
section
variable {P : Program} {ops : Array Oper} {md : Region.Mode}
end
section
variable {P : Program} {ops : Array Oper} {Q : Exit → Act → World → Prop} {E : Act → World → Prop} {F : List Nat} {w : World} {H : List As} {l : List Oper} {o : Oper} {a a' : Act} {b : Bool} {bs : List Bool}
end
end Go.Proofs.Ytlbgelbhhibikaa

set_option linter.unusedSimpArgs false
set_option linter.unusedVariables false
namespace Go.Proofs.Ytlbgelbhhibikaa.Ww
set_option maxHeartbeats 1500000
set_option maxRecDepth 100000
open Go.RowKit
attribute [local irreducible] wpList wpTr wpX
set_option linter.unusedSimpArgs false
/-- a text of at most so many bytes, by the document -/
def dtx (most : Int) (t : List UInt8) : List UInt8 := if most < (t.length : Int) then [] else tB t
def dok (most : Int) (t : List UInt8) : Bool := !decide (most < (t.length : Int))
/-- the document's request -/
abbrev rrF (q : Rq) (vr bi : List UInt8) : Array Value := agF [.c (.int .i64 q.k), .c (str q.id), .c (str vr), .c (str bi), .c (.int .i64 q.l0), .c (.int .i64 q.l1), .c (.int .i64 q.l2), .c (.int .i64 q.per), .c (str q.lab), .c (str q.val), .c (.int .i64 q.fr), .c (.int .i64 q.ti), .c (str q.bun)]
def daskL (q : Rq) : List UInt8 :=
 if q.k = 1 then [u8 q.k.toNat] ++ dtx 16 q.id ++ lb 32 q.vrf ++ lb 32 q.bind ++ eI q.l0 ++ eI q.l1 ++ eI q.l2 ++ eI q.per
 else if q.k = 5 then [u8 q.k.toNat] ++ dtx 16 q.id ++ dtx 32 q.lab ++ dtx 64 q.val
 else if q.k = 6 then [u8 q.k.toNat] ++ dtx 16 q.id ++ dtx 32 q.lab ++ eI q.fr
 else if q.k = 7 then [u8 q.k.toNat] ++ dtx 16 q.id ++ dtx 32 q.lab
 else if q.k = 8 then [u8 q.k.toNat] ++ dtx 16 q.id ++ eI q.fr ++ eI q.ti
 else if q.k = 10 then [u8 q.k.toNat] ++ dtx 65535 q.bun
 else if q.k = 12 then [u8 q.k.toNat] ++ eI q.fr ++ eI q.ti
 else [u8 q.k.toNat] ++ dtx 16 q.id
theorem b2 (a b : Bool) : a = false ∨ (a = true ∧ b = false) ∨ (a = true ∧ b = true) := by cases a <;> cases b <;> simp
attribute [local irreducible] lb be8 eI tB txL txB dtx dok

end Go.Proofs.Ytlbgelbhhibikaa.Ww

set_option linter.unusedSimpArgs false
set_option linter.unusedVariables false
namespace Go.Proofs.Ytlbgelbhhibikaa.Ww
set_option maxHeartbeats 1500000
set_option maxRecDepth 100000
open Go.RowKit
attribute [local irreducible] wpList wpTr wpX
set_option linter.unusedSimpArgs false
attribute [local irreducible] lb be8 eI tB txL txB dtx dok

theorem zer_wire_Request : zer Try.prog 33 = some (some (agF [.c (.int .i64 0), .c (.slice none 0 0), .a 32 0, .a 32 0, .c (.int .i64 0), .c (.int .i64 0), .c (.int .i64 0), .c (.int .i64 0), .c (.slice none 0 0), .c (.slice none 0 0), .c (.int .i64 0), .c (.int .i64 0), .c (.slice none 0 0)])) := by kernel_rfl
theorem plc_wire_Request : plc Try.prog 33 = some [(0, 1), (1, 1), (2, 64), (66, 3), (69, 1), (70, 1), (71, 1), (72, 1), (73, 1), (74, 1)] := by kernel_rfl
theorem zer_custumalref24_Request : zer Try.prog 24 = some (some (agF [.c (.int .i64 0), .c (str []), .c (str []), .c (str []), .c (.int .i64 0), .c (.int .i64 0), .c (.int .i64 0), .c (.int .i64 0), .c (str []), .c (str []), .c (.int .i64 0), .c (.int .i64 0), .c (str [])])) := by kernel_rfl
theorem plc_custumalref24_Request : plc Try.prog 24 = some [(0, 1), (1, 1), (2, 1), (3, 1), (4, 3), (7, 1), (8, 1), (9, 1), (10, 1), (11, 1), (12, 1)] := by kernel_rfl
theorem zer_direct_Limits : zer Try.prog 31 = some (some (agF [.c (.int .i64 0), .c (.int .i64 0), .c (.int .i64 0)])) := by kernel_rfl
theorem plc_direct_Limits : plc Try.prog 31 = some [(0, 1), (1, 1), (2, 1)] := by kernel_rfl
theorem zer_direct_Keys : zer Try.prog 29 = some (some (agF [.a 32 0, .a 32 0])) := by kernel_rfl
theorem plc_direct_Keys : plc Try.prog 29 = some [(0, 32), (32, 32)] := by kernel_rfl
end Go.Proofs.Ytlbgelbhhibikaa.Ww
