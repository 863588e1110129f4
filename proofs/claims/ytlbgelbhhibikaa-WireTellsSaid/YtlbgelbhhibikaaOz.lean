/- Rows of bytes that began as a text: a mark lies behind their last cell; they may be appended to. No conditions. -/
import Derived.Test.YtlbgelbhhibikaaGc
set_option linter.unusedSimpArgs false
set_option linter.unusedVariables false
namespace Go.Proofs.Ytlbgelbhhibikaa
open Go.RowKit
set_option linter.unusedSimpArgs false
def Owz (w : World) (v : Value) (l : List UInt8) : Prop :=
  ∃ (g cap : Nat) (cs : Array Value) (fz : Nat × Nat), v = .slice (some ⟨g, 0, none⟩) l.length cap ∧ w.heap[g]? = some (.cells cs 5 fz) ∧ (fz.1 = fz.2 ∨ cs.size ≤ fz.1) ∧ l.length ≤ cap ∧ cap ≤ maxLen ∧ cs.size = cap ∧ cs.toList.take l.length = bs8 l
theorem Owz.lt {w : World} {v : Value} {l : List UInt8} (h : Owz w v l) : ∀ g, v.ownBlock = some g → g < w.heap.size := by
  intro x hx
  obtain ⟨g, cap, cs, fz, rfl, hh, _⟩ := h
  obtain rfl : g = x := Option.some.inj hx
  exact lt_of_block hh
theorem Owz.off {F : List Nat} {w w' : World} {v : Value} {l : List UInt8} (h : Owz w v l) (k : Off F w w') (hF : ∀ b ∈ F, v.ownBlock ≠ some b) : Owz w' v l := by
  obtain ⟨g, cap, cs, fz, rfl, hh, r⟩ := h
  exact ⟨g, cap, cs, fz, rfl, by rw [k.block g (lt_of_block hh) (fun hx => hF g hx rfl)]; exact hh, r⟩
theorem Owz.cells {w : World} {g cap : Nat} {l : List UInt8} {cs : Array Value} {fz : Nat × Nat} (hh : w.heap[g]? = some (.cells cs 5 fz)) (ht : cs.toList.take l.length = bs8 l) : ∀ j u, (bs8 l)[j]? = some u → w.cell? ((⟨g, 0, none⟩ : Addr).add j) = some u := fun j u hu => by
  rw [Addr.add_mid, cell_of_row w g _ cs _ _ hh, Nat.zero_add]
  rw [← ht, List.getElem?_take] at hu
  split at hu
  · simpa using hu
  · cases hu
theorem Owz.sl {w : World} {v : Value} {l : List UInt8} (h : Owz w v l) : Sl w v l := by
  obtain ⟨g, cap, cs, fz, rfl, hh, hf, hc, hm, hs, ht⟩ := h
  exact ⟨some ⟨g, 0, none⟩, cap, rfl, hc, hm, (fun h => by cases h), fun j x hj => ⟨_, rfl, Owz.cells (cap := cap) hh ht j _ (bs8_get hj)⟩⟩
theorem Owz.len {w : World} {v : Value} {l : List UInt8} (h : Owz w v l) : ∃ A c, v = .slice A l.length c ∧ l.length ≤ c := by
  obtain ⟨g, cap, cs, fz, rfl, _, _, hc, _⟩ := h
  exact ⟨_, _, rfl, hc⟩
theorem owz_blz {w : World} {g c : Nat} {l : List UInt8} {cs : Array Value} (h : Blz w g cs 5) (hc : l.length ≤ c) (hm : c ≤ maxLen) (hs : cs.size = c) (hl : cs.toList.take l.length = bs8 l) : Owz w (.slice (some ⟨g, 0, none⟩) l.length c) l := by
  obtain ⟨fz, h1, h2⟩ := h
  exact ⟨g, c, cs, fz, rfl, h1, .inr h2, hc, hm, hs, hl⟩
theorem wpL_bytesz {ops : Array Oper} {Q : Exit → Act → World → Prop} {w : World} {r : List Oper} {o : Oper} {a : Act} {x : Operand} {l : List UInt8} (hl : l.length ≤ 140737488355328) (hw : Region.wanted o (yielded ops a.tmps) = true) (ho : o.op = .convert 9 26 x) (hx : a.eval x = str l)
    (h : ∀ v W, Of v.ownBlock none w.heap.size → Off [] w W → Owz W v l → wpList Try.prog ops Q r (a.put o.dst v) W) : wpList Try.prog ops Q (o :: r) a w :=
  wpL_bytes hl hw ho hx fun b c cs W h1 h2 h3 h4 h5 h6 h7 => h _ W (fun x hx hlt => by have e : b = x := Option.some.inj hx; omega) h2 (owz_blz h3 h4 h5 h6 h7)
end Go.Proofs.Ytlbgelbhhibikaa
