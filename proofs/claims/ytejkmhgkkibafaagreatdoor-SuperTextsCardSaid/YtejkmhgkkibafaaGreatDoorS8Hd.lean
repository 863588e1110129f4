/- Rows of bytes that began as a text: a mark lies behind their last cell; they may be appended to. What the document's sum needs: the schedule in one loop, places, bytes of the words, the tables of the document. -/
import Derived.Test.YtejkmhgkkibafaaGreatDoorJ8
import Derived.Test.YtejkmhgkkibafaaGreatDoorOz
import Derived.Test.YtejkmhgkkibafaaGreatDoorJ11
import Derived.Test.YtejkmhgkkibafaaGreatDoorGc
import Derived.Test.YtejkmhgkkibafaaGreatDoorS8ShD
set_option linter.unusedSimpArgs false
set_option linter.unusedVariables false
namespace Go.Proofs.YtejkmhgkkibafaaGreatDoor.S8
open Go.RowKit
set_option linter.unusedSimpArgs false
end Go.Proofs.YtejkmhgkkibafaaGreatDoor.S8

namespace Go.Proofs.YtejkmhgkkibafaaGreatDoor.S8
open Go.RowKit
def GR (w : World) : Prop := Rd w 3 (arrK .u64 80 kf) ∧ Rd w 2 (arrK .u64 8 hf)
theorem GR_ext {w W : World} (h : GR w) (e : Ext w W) : GR W := ⟨h.1.ext e, h.2.ext e⟩
/-- byte j of the words -/
def bo (H : Nat → Int) (j : Nat) : UInt8 := u8 (ob H j).toNat
theorem bo_ob (H : Nat → Int) (j : Nat) : ((bo H j).toNat : Int) = ob H j := by
  have := w8_ok (sr (H (j / 8)) (8 * (7 - j % 8)))
  unfold bo
  rw [u8_cast]
  unfold ob
  omega
def wb (H : Nat → Int) (n : Nat) : List UInt8 := (List.range n).map (bo H)
theorem wb_length (H : Nat → Int) (n : Nat) : (wb H n).length = n := by simp [wb]
/-- the sum as bytes -/
def smb (l : List UInt8) : List UInt8 := wb (Hs (pad l) (nb l.length)) 64
theorem smb_length (l : List UInt8) : (smb l).length = 64 := wb_length _ _
theorem smb_cells (l : List UInt8) : (arrK .u8 64 (sm l)).toList = bs8 (smb l) := by
  unfold arrK bs8 smb wb
  rw [List.map_map]
  simp only [List.map_inj_left, Function.comp]
  intro j _
  rw [bo_ob]; rfl
end Go.Proofs.YtejkmhgkkibafaaGreatDoor.S8
