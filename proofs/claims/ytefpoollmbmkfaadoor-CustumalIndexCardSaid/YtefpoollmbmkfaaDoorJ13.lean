/- Rows of bytes that began as a text: a mark lies behind their last cell; they may be appended to. What the document's sum needs: the schedule in one loop, places, bytes of the words, the tables of the document. The document's sum. Conditions: the text is no longer than 2^46 bytes; the tables hold their numbers. -/
import Derived.Test.YtefpoollmbmkfaaDoorGc
import Derived.Test.YtefpoollmbmkfaaDoorShD
set_option linter.unusedSimpArgs false
set_option linter.unusedVariables false
namespace Go.Proofs.YtefpoollmbmkfaaDoor
open Go.RowKit
set_option linter.unusedSimpArgs false
def Owz (w : World) (v : Value) (l : List UInt8) : Prop :=
  ∃ (g cap : Nat) (cs : Array Value) (fz : Nat × Nat), v = .slice (some ⟨g, 0, none⟩) l.length cap ∧ w.heap[g]? = some (.cells cs 5 fz) ∧ (fz.1 = fz.2 ∨ cs.size ≤ fz.1) ∧ l.length ≤ cap ∧ cap ≤ maxLen ∧ cs.size = cap ∧ cs.toList.take l.length = bs8 l
theorem Owz.lt {w : World} {v : Value} {l : List UInt8} (h : Owz w v l) : ∀ g, v.ownBlock = some g → g < w.heap.size := by
  intro x hx
  obtain ⟨g, cap, cs, fz, rfl, hh, _⟩ := h
  obtain rfl : g = x := Option.some.inj hx
  exact lt_of_block hh
theorem Owz.off {F : List Nat} {w w' : World} {v : Value} {l : List UInt8} (h : Owz w v l) (k : Off F w w') (hF : ∀ b ∈ F, v.ownBlock ≠ some b) : Owz w' v l := by
  obtain ⟨g, cap, cs, fz, rfl, hh, r⟩ := h
  exact ⟨g, cap, cs, fz, rfl, by rw [k.block g (lt_of_block hh) (fun hx => hF g hx rfl)]; exact hh, r⟩
theorem Owz.cells {w : World} {g cap : Nat} {l : List UInt8} {cs : Array Value} {fz : Nat × Nat} (hh : w.heap[g]? = some (.cells cs 5 fz)) (ht : cs.toList.take l.length = bs8 l) : ∀ j u, (bs8 l)[j]? = some u → w.cell? ((⟨g, 0, none⟩ : Addr).add j) = some u := fun j u hu => by
  rw [Addr.add_mid, cell_of_row w g _ cs _ _ hh, Nat.zero_add]
  rw [← ht, List.getElem?_take] at hu
  split at hu
  · simpa using hu
  · cases hu
theorem Owz.sl {w : World} {v : Value} {l : List UInt8} (h : Owz w v l) : Sl w v l := by
  obtain ⟨g, cap, cs, fz, rfl, hh, hf, hc, hm, hs, ht⟩ := h
  exact ⟨some ⟨g, 0, none⟩, cap, rfl, hc, hm, (fun h => by cases h), fun j x hj => ⟨_, rfl, Owz.cells (cap := cap) hh ht j _ (bs8_get hj)⟩⟩
theorem Owz.len {w : World} {v : Value} {l : List UInt8} (h : Owz w v l) : ∃ A c, v = .slice A l.length c ∧ l.length ≤ c := by
  obtain ⟨g, cap, cs, fz, rfl, _, _, hc, _⟩ := h
  exact ⟨_, _, rfl, hc⟩
end Go.Proofs.YtefpoollmbmkfaaDoor

namespace Go.Proofs.YtefpoollmbmkfaaDoor
open Go.RowKit
def GR (w : World) : Prop := Rd w 7 (arrK .u64 80 kf) ∧ Rd w 6 (arrK .u64 8 hf)
theorem GR_ext {w W : World} (h : GR w) (e : Ext w W) : GR W := ⟨h.1.ext e, h.2.ext e⟩
/-- byte j of the words -/
def bo (H : Nat → Int) (j : Nat) : UInt8 := u8 (ob H j).toNat
theorem bo_ob (H : Nat → Int) (j : Nat) : ((bo H j).toNat : Int) = ob H j := by
  have := w8_ok (sr (H (j / 8)) (8 * (7 - j % 8)))
  unfold bo
  rw [u8_cast]
  unfold ob
  omega
def wb (H : Nat → Int) (n : Nat) : List UInt8 := (List.range n).map (bo H)
theorem wb_length (H : Nat → Int) (n : Nat) : (wb H n).length = n := by simp [wb]
theorem wb_step (H : Nat → Int) (i : Nat) : wb H (8 * i) ++ [bo H (8 * i + 0)] ++ [bo H (8 * i + 1)] ++ [bo H (8 * i + 2)] ++ [bo H (8 * i + 3)] ++ [bo H (8 * i + 4)] ++ [bo H (8 * i + 5)] ++ [bo H (8 * i + 6)] ++ [bo H (8 * i + 7)] = wb H (8 * (i + 1)) := by
  unfold wb
  rw [show 8 * (i + 1) = 8 * i + 7 + 1 by omega]
  simp only [List.range_succ, List.map_append, List.map_cons, List.map_nil, List.append_assoc, Nat.add_zero, List.cons_append, List.nil_append]
/-- the sum as bytes -/
def smb (l : List UInt8) : List UInt8 := wb (Hs (pad l) (nb l.length)) 64
theorem smb_length (l : List UInt8) : (smb l).length = 64 := wb_length _ _
theorem smb_cells (l : List UInt8) : (arrK .u8 64 (sm l)).toList = bs8 (smb l) := by
  unfold arrK bs8 smb wb
  rw [List.map_map]
  simp only [List.map_inj_left, Function.comp]
  intro j _
  rw [bo_ob]; rfl
end Go.Proofs.YtefpoollmbmkfaaDoor

set_option linter.unusedSimpArgs false
set_option linter.unusedVariables false
namespace Go.Proofs.YtefpoollmbmkfaaDoor
set_option maxHeartbeats 1500000
set_option maxRecDepth 100000
open Go.RowKit
attribute [local irreducible] wpList

end Go.Proofs.YtefpoollmbmkfaaDoor
