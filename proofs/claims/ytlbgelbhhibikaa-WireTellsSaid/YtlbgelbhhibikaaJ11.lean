/- Words of 64 bits as the model reckons with them; arrays by a place that varies. No conditions. sha5.turn, the document's turn: a word turned to the right. No conditions. sha5.spread: a block as 80 words. Conditions: the slice has 128 bytes. sha5.press: a block worked into eight words. Conditions: the slice has 128 bytes; the cells of the two tables hold their numbers. Rows of noughts, bytes of numbers, blocks of a sum: what sums of all kinds share. No conditions. -/
import Derived.Test.YtlbgelbhhibikaaGc
import Derived.Laws.BitsLemmas
import Derived.Lib.AppendZeros
set_option linter.unusedSimpArgs false
set_option linter.unusedVariables false
namespace Go.Proofs.Ytlbgelbhhibikaa
open Go.RowKit

def an (p q : Int) : Int := bits .and .u64 p q
def oo (p q : Int) : Int := bits .or .u64 p q
def ad (p q : Int) : Int := IntKind.wrap .u64 (p + q)
def sl (p : Int) (n : Nat) : Int := IntKind.wrap .u64 (p * 2 ^ n)
section
variable {P : Program} {w : World} {o : Oper} {a : Act} {x y : Operand} {t t' : TypeId} {p q : Int}
end
end Go.Proofs.Ytlbgelbhhibikaa

set_option linter.unusedSimpArgs false
set_option linter.unusedVariables false
namespace Go.Proofs.Ytlbgelbhhibikaa
open Go.RowKit
set_option linter.unusedSimpArgs false
end Go.Proofs.Ytlbgelbhhibikaa

namespace Go.Proofs.Ytlbgelbhhibikaa
open Go.RowKit

section
variable {w : World} {o : Oper} {a : Act}
end
/-- the byte of a number -/
def u8 (n : Nat) : UInt8 := UInt8.ofNat n
theorem u8_nat (n : Nat) : (u8 n).toNat = n % 256 := UInt8.toNat_ofNat'
theorem u8_cast (n : Nat) : ((u8 n).toNat : Int) = (n : Int) % 256 := by rw [u8_nat]; rfl
def be8 (X : Nat) : List UInt8 := [u8 (X / 72057594037927936), u8 (X / 281474976710656), u8 (X / 1099511627776), u8 (X / 4294967296), u8 (X / 16777216), u8 (X / 65536), u8 (X / 256), u8 X]
def w8 (x : Int) : Int := IntKind.wrap .u8 x
section
variable {P : Program} {w : World} {o : Oper} {a : Act} {x y : Operand} {t t' : TypeId} {p q : Int}
end
end Go.Proofs.Ytlbgelbhhibikaa
