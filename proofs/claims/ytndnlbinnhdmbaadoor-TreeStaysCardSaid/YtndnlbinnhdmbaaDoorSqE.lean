/- sha2's sums that go on: what a Hash holds; New. Conditions: the tables hold their numbers. -/
import Derived.Test.YtndnlbinnhdmbaaDoorGc
import Derived.Test.YtndnlbinnhdmbaaDoorSqM
import Derived.Test.YtndnlbinnhdmbaaDoorSqD
set_option linter.unusedSimpArgs false
set_option linter.unusedVariables false
namespace Go.Proofs.YtndnlbinnhdmbaaDoor
set_option maxHeartbeats 1500000
set_option maxRecDepth 100000
open Go.RowKit
attribute [local irreducible] wpList

/-- the cells of a Hash: eight words, the rest, the count -/
abbrev hc8 (H : Nat → Int) (v n : Value) : Array Value := arrK .u32 8 H ++ #[v, n]
section
variable {H K : Nat → Int} {v n x : Value}
theorem hc_size : (hc8 H v n).size = 10 := by simp [arrK_size]
theorem hc_words : ∀ i u, (arrK .u32 8 H)[i]? = some u → (hc8 H v n)[0 + i]? = some u := fun i u h => by
  have hi : i < (arrK .u32 8 H).size := by
    rcases Nat.lt_or_ge i (arrK .u32 8 H).size with h1 | h1
    · exact h1
    · rw [Array.getElem?_eq_none h1] at h; cases h
  rw [Nat.zero_add, Array.getElem?_append_left hi]; exact h
theorem hc_rest : (hc8 H v n)[8]? = some v := by rw [Array.getElem?_append_right (by rw [arrK_size]; decide), arrK_size]; rfl
theorem hc_count : (hc8 H v n)[9]? = some n := by rw [Array.getElem?_append_right (by rw [arrK_size]; decide), arrK_size]; rfl
theorem hc_putrest : (hc8 H v n).setIfInBounds 8 x = hc8 H x n := by
  apply Array.toList_inj.1; simp [arrK]
theorem hc_putcount : (hc8 H v n).setIfInBounds 9 x = hc8 H v x := by
  apply Array.toList_inj.1; simp [arrK]
theorem hc_putwords : spl (hc8 H v n) 0 (arrK .u32 8 K).toList = hc8 K v n := by
  first | kernel_rfl | rfl | (apply Array.toList_inj.1; simp [spl, arrK, List.range, List.range.loop])
end
/-- a Hash that has taken the bytes F: its words, what is left of F, and the count -/
abbrev hcs (v : Value) (F : List UInt8) : Array Value := hc8 (hw4 F) v (.int .i64 (F.length : Int))
def Hsh (w : World) (p : Nat) (v : Value) (F : List UInt8) : Prop := Blk w p (hcs v F) 138 ∧ Own w v (hr4 F) ∧ v.ownBlock ≠ some p

theorem new4_c (w : World) (hG : GS4 w) :
  Calls Tryd.prog 77 #[] w fun e w' => ∃ p, e = .returned (.pointer (some ⟨p, 0, none⟩)) ∧ w.heap.size ≤ p ∧ Off [] w w' ∧ Hsh w' p (.slice none 0 0) [] := by
 have HG := Lib.hid hG
 clear hG
 have off0 : Off [] w w := Off.refl _ _
 go_enter Tryd.func77, Tryd.ntmps77
 go_upto_region 1 with fail
 refine wp_region_lit ?_
 refine wpL_rd0 (by rfl) rfl rfl ((GS_ext4 HG.out off0.ext).2) (by kernel_rfl) (by rw [arrK_size]; kernel_rfl) ?_
 (try simp only [Act.put, mA, mB, mC])
 refine Lw ?_ (v := .agg (hcs (.slice none 0 0) [])) (hv := by first | rfl | (go_simp; rfl) | kernel_rfl)
 refine Ln ?_ (z := hcs (.slice none 0 0) []) (t := 138)
 intro p3_1 W1 n_t3 hO h_
 have fb_t3 := fbn off0 n_t3
 replace off0 := off0.o hO
 have k_t3 := h_
 clear hO h_ n_t3
 refine Lv ?_
 refine wpL_nil ?_
 go_wp2
 exact bodyPost_ret (v := .pointer (some ⟨p3_1, 0, none⟩)) (by simp only [results, Tryd.results77]; go_simp) rfl ⟨_, rfl, Nat.le_of_not_lt (fun h_ => by simpa using fb_t3 h_), off0, k_t3, own_nil _, fun e_ => by cases e_⟩
end Go.Proofs.YtndnlbinnhdmbaaDoor
