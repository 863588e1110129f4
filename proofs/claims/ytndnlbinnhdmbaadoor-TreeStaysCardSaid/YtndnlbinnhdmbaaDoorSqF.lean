/- append to a slice of bytes that has no room left: a new row. No conditions. -/
import Derived.Test.YtndnlbinnhdmbaaDoorSqE
set_option linter.unusedSimpArgs false
set_option linter.unusedVariables false
namespace Go.Proofs.YtndnlbinnhdmbaaDoor
open Go.RowKit
set_option linter.unusedSimpArgs false

theorem sl_cells_at {w : World} {ad : Addr} {n c : Nat} {l : List UInt8} (h : Sl w (.slice (some ad) n c) l) : ∀ j u, (bs8 l)[j]? = some u → w.cell? (ad.add j) = some u := fun j u hu => by
  simp only [bs8, List.getElem?_map, Option.map_eq_some_iff] at hu
  obtain ⟨x, hx, rfl⟩ := hu
  exact sl_at h hx
theorem sl_fresh (w : World) {l : List UInt8} {cap n : Nat} {z : Array Value} (hn : n = l.length) (hc : l.length ≤ cap) (hm : cap ≤ maxLen) : Sl (w.drew.alloc (.cells ((bs8 l).toArray ++ z) 5)) (.slice (some ⟨w.heap.size, 0, none⟩) n cap) l :=
  sl_blk (cs := (bs8 l).toArray ++ z) (t := 5) (by exact heap_alloc_new w.drew _) hn (by omega) hm fun j x hj => by
    have h1 := bs8_get hj
    have h2 : j < (bs8 l).length := (List.getElem?_eq_some_iff.1 h1).1
    rw [Nat.zero_add, Array.getElem?_append_left (by simpa using h2)]
    simpa using h1
theorem run_append_tight (w : World) (ty : TypeId) {A : Option Addr} {u : Value} {l m : List UInt8} (hv : Sl w (.slice A l.length l.length) l) (hu : Sl w u m) (hlen : l.length + m.length ≤ 140737488355328) :
    ∃ v' W, (Builtin.append_ #[33, 33] ty #[.slice A l.length l.length, u]).run Tryd.prog w = .ok v' W ∧ Sl W v' (l ++ m) ∧ Off [] w W ∧ ((m = [] ∧ v' = .slice A l.length l.length) ∨ v'.ownBlock = some w.heap.size) := by
  obtain ⟨i, hi, hz, hsz, hby⟩ := info_parts bytes_info
  have ht := Tryd.underlying33
  obtain ⟨B, c, rfl, hc, hm, h0, hcell⟩ := id hu
  by_cases hme : m = []
  · subst hme
    refine ⟨_, w, ?_, by rw [List.append_nil]; exact hv, Off.refl _ _, .inl ⟨rfl, rfl⟩⟩
    cases A <;> cases B <;> simp [Builtin.append_, run_underlying ht, sizeOf, typeInfo, hi, Builtin.lenOf, Builtin.firstCells, storeCells, loadCells, loadCellsFrom]
  · have hml : 0 < m.length := List.length_pos_iff.2 hme
    rcases B with _ | ad
    · obtain ⟨ad, h, _⟩ := hcell 0 m[0] (List.getElem?_eq_getElem hml); cases h
    · have hge := fun o => grownCap_ge w (l.length + m.length) o 5
      have hcm := fun o => grownCap_le_maxLen w (l.length + m.length) o 5 (by unfold maxLen; omega)
      rcases A with _ | b
      · have hl : l = [] := by
          cases l with
          | nil => rfl
          | cons x r => obtain ⟨_, _, h, _, _, _, hcell2⟩ := hv; obtain ⟨ad, h2, _⟩ := hcell2 0 x rfl; cases h; cases h2
        subst hl
        have hr := run_append_nil (P := Tryd.prog) (w := w) 33 ty 5 i (.int .u8 0) ht hi hz ad m.length c (bs8 m) (by rw [bs8_length, hsz, Nat.mul_one]) (sl_cells_at hu) hml (by omega) (by rw [hby]; omega)
        refine ⟨_, _, hr, ?_, off_ext ((Below.refl _ _).drew.alloc (Nat.le_refl _) _), .inr rfl⟩
        have hg := hge 0; have hc2 := hcm 0
        simp only [List.length_nil, Nat.zero_add] at hg hc2
        exact sl_fresh w rfl hg hc2
      · have hr := run_append_grow (P := Tryd.prog) (w := w) 33 ty 5 i (.int .u8 0) ht hi hz b l.length l.length (bs8 l) (by rw [bs8_length, hsz, Nat.mul_one]) (sl_cells_at hv) ad m.length c (bs8 m) (by rw [bs8_length, hsz, Nat.mul_one]) (sl_cells_at hu) (by omega) (by omega) (by rw [hby]; exact growslice_fits (by omega) (by omega))
        refine ⟨_, _, hr, ?_, off_ext ((Below.refl _ _).drew.alloc (Nat.le_refl _) _), .inr rfl⟩
        rw [show (bs8 l).toArray ++ (bs8 m).toArray = (bs8 (l ++ m)).toArray by rw [bs8_append]; simp]
        exact sl_fresh w (by rw [List.length_append]) (by rw [List.length_append]; exact hge _) (hcm _)
/-- v[:n:n] -/
theorem run_tight {w : World} {v : Value} {l : List UInt8} (hs : Sl w v l) : ∃ A, (∀ W, (Instr.sliceAt 33 v none (some (.int .i64 (l.length : Int))) (some (.int .i64 (l.length : Int)))).run Tryd.prog W = .ok (.slice A l.length l.length) W) ∧ Sl w (.slice A l.length l.length) l ∧ (∀ x, (Value.slice A l.length l.length).ownBlock = some x → v.ownBlock = some x) := by
  obtain ⟨A, c, rfl, h1, h2, h0, h3⟩ := hs
  have hA : A.map (fun a : Addr => a.add 0) = A := by
    have : ∀ a : Addr, a.add 0 = a := fun a => by unfold Addr.add; simp
    cases A <;> simp [this]
  refine ⟨A, fun W => ?_, ⟨A, l.length, rfl, Nat.le_refl _, Nat.le_trans h1 h2, fun h => ?_, h3⟩, fun x hx => by cases A <;> exact hx⟩
  · have hnc : l.length ≤ c := h1
    have h1 := u8_size
    cases hq : Tryd.prog.info? 5 with
    | none => simp [hq] at h1
    | some i => simp [Instr.sliceAt, Instr.slice, Instr.sliceBounds, Instr.sliceBound, asIntOf, run_underlying Tryd.underlying33, Sem.run_bind, sizeOf, typeInfo, hq, hnc, hA]
  · have := h0 h; omega
end Go.Proofs.YtndnlbinnhdmbaaDoor
