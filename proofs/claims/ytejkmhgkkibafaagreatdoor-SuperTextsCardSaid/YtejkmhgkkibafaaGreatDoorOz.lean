/- Rows of bytes that began as a text: a mark lies behind their last cell; they may be appended to. No conditions. -/
import Derived.Test.YtejkmhgkkibafaaGreatDoorGc
set_option linter.unusedSimpArgs false
set_option linter.unusedVariables false
namespace Go.Proofs.YtejkmhgkkibafaaGreatDoor
open Go.RowKit
set_option linter.unusedSimpArgs false
def Owz (w : World) (v : Value) (l : List UInt8) : Prop :=
  ∃ (g cap : Nat) (cs : Array Value) (fz : Nat × Nat), v = .slice (some ⟨g, 0, none⟩) l.length cap ∧ w.heap[g]? = some (.cells cs 5 fz) ∧ (fz.1 = fz.2 ∨ cs.size ≤ fz.1) ∧ l.length ≤ cap ∧ cap ≤ maxLen ∧ cs.size = cap ∧ cs.toList.take l.length = bs8 l
theorem Owz.lt {w : World} {v : Value} {l : List UInt8} (h : Owz w v l) : ∀ g, v.ownBlock = some g → g < w.heap.size := by
  intro x hx
  obtain ⟨g, cap, cs, fz, rfl, hh, _⟩ := h
  obtain rfl : g = x := Option.some.inj hx
  exact lt_of_block hh
theorem Owz.off {F : List Nat} {w w' : World} {v : Value} {l : List UInt8} (h : Owz w v l) (k : Off F w w') (hF : ∀ b ∈ F, v.ownBlock ≠ some b) : Owz w' v l := by
  obtain ⟨g, cap, cs, fz, rfl, hh, r⟩ := h
  exact ⟨g, cap, cs, fz, rfl, by rw [k.block g (lt_of_block hh) (fun hx => hF g hx rfl)]; exact hh, r⟩
theorem Owz.cells {w : World} {g cap : Nat} {l : List UInt8} {cs : Array Value} {fz : Nat × Nat} (hh : w.heap[g]? = some (.cells cs 5 fz)) (ht : cs.toList.take l.length = bs8 l) : ∀ j u, (bs8 l)[j]? = some u → w.cell? ((⟨g, 0, none⟩ : Addr).add j) = some u := fun j u hu => by
  rw [Addr.add_mid, cell_of_row w g _ cs _ _ hh, Nat.zero_add]
  rw [← ht, List.getElem?_take] at hu
  split at hu
  · simpa using hu
  · cases hu
theorem Owz.sl {w : World} {v : Value} {l : List UInt8} (h : Owz w v l) : Sl w v l := by
  obtain ⟨g, cap, cs, fz, rfl, hh, hf, hc, hm, hs, ht⟩ := h
  exact ⟨some ⟨g, 0, none⟩, cap, rfl, hc, hm, (fun h => by cases h), fun j x hj => ⟨_, rfl, Owz.cells (cap := cap) hh ht j _ (bs8_get hj)⟩⟩
theorem Owz.len {w : World} {v : Value} {l : List UInt8} (h : Owz w v l) : ∃ A c, v = .slice A l.length c ∧ l.length ≤ c := by
  obtain ⟨g, cap, cs, fz, rfl, _, _, hc, _⟩ := h
  exact ⟨_, _, rfl, hc⟩
theorem owz_blz {w : World} {g c : Nat} {l : List UInt8} {cs : Array Value} (h : Blz w g cs 5) (hc : l.length ≤ c) (hm : c ≤ maxLen) (hs : cs.size = c) (hl : cs.toList.take l.length = bs8 l) : Owz w (.slice (some ⟨g, 0, none⟩) l.length c) l := by
  obtain ⟨fz, h1, h2⟩ := h
  exact ⟨g, c, cs, fz, rfl, h1, .inr h2, hc, hm, hs, hl⟩
theorem run_storeCells_z {P : Program} (g o : Nat) (t : TypeId) (fz : Nat × Nat) : ∀ (vs : List Value) (i : Nat) (cur : Array Value) (w : World), w.heap[g]? = some (.cells cur t fz) → (fz.1 = fz.2 ∨ cur.size ≤ fz.1) → o + i + vs.length ≤ cur.size → (∀ v ∈ vs, v.oneCell' = true) →
    (storeCells ⟨g, o, none⟩ vs i).run P w = .ok () (w.setRow g (cur.toList.take (o + i) ++ vs ++ cur.toList.drop (o + i + vs.length)).toArray)
  | [], i, cur, w, hg, _, _, _ => by
    simp only [storeCells, List.append_nil, List.length_nil, Nat.add_zero, List.take_append_drop, Array.toArray_toList]
    rw [setRow_self w g cur t fz hg]
    rfl
  | v :: rest, i, cur, w, hg, hz, hl, h1 => by
    have hi : o + i < cur.size := by simp at hl; omega
    have hadd : (⟨g, o, none⟩ : Addr).add i = ⟨g, o + i, none⟩ := by unfold Addr.add; split <;> simp_all
    have hcell : w.cell? ⟨g, o + i, none⟩ = some cur[o + i] := by simp [World.cell?, hg, hi]
    have hfro : w.frozen? ⟨g, o + i, none⟩ = false := by simp [World.frozen?, hg]; omega
    have hst : (store ((⟨g, o, none⟩ : Addr).add i) v).run P w = .ok () (w.setRow g (cur.setIfInBounds (o + i) v)) := by
      rw [hadd, run_store P w _ v _ (h1 v (by simp)), hcell]
      simp [hfro, setCell_eq_setRow w g (o + i) cur t fz v hg]
    have ih := run_storeCells_z (P := P) g o t fz rest (i + 1) (cur.setIfInBounds (o + i) v) (w.setRow g (cur.setIfInBounds (o + i) v)) (setRow_heap w g cur _ t _ hg) (by simpa using hz) (by simp at hl ⊢; omega) (fun x hx => h1 x (by simp [hx]))
    simp only [storeCells, Sem.run_bind, hst, Result.andThen_ok, ih, setRow_setRow]
    congr 3
    have e := list_seg_step cur.toList (o + i) v rest (by simp at hl ⊢; omega)
    simpa [Array.toList_setIfInBounds, Nat.add_assoc] using e
theorem run_append_z (w : World) (ty : TypeId) {v u : Value} {l m : List UInt8} (hown : Owz w v l) (hs : Sl w u m) (hlen : l.length + m.length ≤ 140737488355328) :
    ∃ v' W, (Builtin.append_ #[22, 22] ty #[v, u]).run Tryz.prog w = .ok v' W ∧ Owz W v' (l ++ m) ∧ Off v.ownBlock.toList w W ∧ (v'.ownBlock = v.ownBlock ∨ v'.ownBlock = some w.heap.size) := by
  obtain ⟨i, hi, hz, hsz, hby⟩ := info_parts bytes_info
  have ht := Tryz.underlying22
  obtain ⟨g, cap, cs, fz, rfl, hh, hf, hc, hm, hcs, htk⟩ := hown
  obtain ⟨A, c, rfl, _, _, _, hcell⟩ := hs
  rcases A with _ | ad
  · have : m = [] := by
      cases m with
      | nil => rfl
      | cons x r => obtain ⟨ad, h, _⟩ := hcell 0 x rfl; cases h
    subst this
    refine ⟨.slice (some ⟨g, 0, none⟩) l.length cap, w, ?_, by rw [List.append_nil]; exact ⟨g, cap, cs, fz, rfl, hh, hf, hc, hm, hcs, htk⟩, Off.refl _ _, .inl rfl⟩
    simp [Builtin.append_, run_underlying ht, sizeOf, typeInfo, hi, Builtin.lenOf, Builtin.firstCells, hc, storeCells]
  · have hnews : ∀ j x, (bs8 m)[j]? = some x → w.cell? (ad.add j) = some x := fun j x hx => by
      simp only [bs8, List.getElem?_map, Option.map_eq_some_iff] at hx
      obtain ⟨y, hy, rfl⟩ := hx
      obtain ⟨ad', h, hc'⟩ := hcell j y hy
      obtain rfl := Option.some.inj h
      exact hc'
    by_cases hroom : l.length + m.length ≤ cap
    · have hfc := run_firstCells_some (P := Tryz.prog) w 1 m.length ad m.length c (bs8 m) (by rw [bs8_length, Nat.mul_one]) hnews
      have hst := run_storeCells_z (P := Tryz.prog) g (l.length * 1) 5 fz (bs8 m) 0 cs w hh hf (by rw [bs8_length, hcs]; omega) (bs8_one m)
      simp only [Nat.add_zero, Nat.mul_one] at hst
      refine ⟨.slice (some ⟨g, 0, none⟩) (l.length + m.length) cap, w.setRow g (cs.toList.take l.length ++ bs8 m ++ cs.toList.drop (l.length + (bs8 m).length)).toArray, ?_, ?_, ?_, .inl rfl⟩
      · simp [Builtin.append_, run_underlying ht, sizeOf, typeInfo, hi, hsz, Builtin.lenOf, hroom, hfc, Addr.add_lit, hst]
      · have hsize : ((cs.toList.take l.length ++ bs8 m ++ cs.toList.drop (l.length + (bs8 m).length)).toArray).size = cs.size := by
          simp only [List.size_toArray, List.length_append, List.length_take, List.length_drop, Array.length_toList, bs8_length]
          omega
        refine ⟨g, cap, _, fz, by rw [List.length_append], setRow_heap w g cs _ 5 fz hh, by rw [hsize]; exact hf, by rw [List.length_append]; exact hroom, hm, by rw [hsize]; exact hcs, ?_⟩
        rw [htk, ← bs8_append, ← bs8_length (l ++ m)]
        exact List.take_left
      · exact ⟨rfl, rfl, rfl, by simp, fun k hk hn => setRow_other w g k _ (fun e => hn (by simp [Value.ownBlock, e]))⟩
    · have hr := run_append_grow (P := Tryz.prog) w 22 ty 5 i (.int .u8 0) ht hi hz ⟨g, 0, none⟩ l.length cap (bs8 l) (by rw [bs8_length, hsz, Nat.mul_one]) (Owz.cells (cap := cap) hh htk) ad m.length c (bs8 m) (by rw [bs8_length, hsz, Nat.mul_one]) hnews (by omega) (by omega)
        (growslice_fits (by omega) (by rw [hby]; omega))
      have hge := grownCap_ge w (l.length + m.length) cap 5
      have hcm : grownCap w (l.length + m.length) cap 5 ≤ maxLen := grownCap_le_maxLen w (l.length + m.length) cap 5 (by unfold maxLen; omega)
      refine ⟨_, _, hr, ⟨w.heap.size, _, _, (0, 0), by rw [List.length_append], heap_alloc_new w.drew _, .inl rfl, by rw [List.length_append]; exact hge, hcm, ?_, ?_⟩, off_ext ((Below.refl _ _).drew.alloc (Nat.le_refl _) _) |>.mono (fun x hx => by cases hx), .inr rfl⟩
      · simp only [Array.size_append, List.size_toArray, size_zeroCells, bs8_length, Value.cells]
        simp
        omega
      · simp only [Array.toList_append, List.append_assoc]
        rw [← List.append_assoc, ← bs8_append, ← bs8_length (l ++ m)]
        exact List.take_left
theorem wpL_appendz {ops : Array Oper} {Q : Exit → Act → World → Prop} {w : World} {l : List Oper} {o : Oper} {a : Act} {s x : Operand} {v u : Value} {xs ys : List UInt8} (hw : Region.wanted o (yielded ops a.tmps) = true)
    (ho : o.op = .call { callee := .builtin .append, args := #[s, x], argTypes := #[22, 22] }) (hs : a.eval s = v) (hx : a.eval x = u) (hown : Owz w v xs) (hsl : Sl w u ys) (hlen : xs.length + ys.length ≤ 140737488355328)
    (h : ∀ v' W, Owz W v' (xs ++ ys) → Off v.ownBlock.toList w W → Of v'.ownBlock v.ownBlock w.heap.size → wpList Tryz.prog ops Q l (a.put o.dst v') W) : wpList Tryz.prog ops Q (o :: l) a w := by
  obtain ⟨v', W, hrun, h1, h2, h3⟩ := run_append_z w o.type hown hsl hlen
  refine wpL_run hw (v := v') (W := W) ?_ (h v' W h1 h2 (of_or h3))
  unfold execOp
  simp only [ho, resolve, invoke, builtin, Sem.run_bind, Sem.run_pure, Result.andThen_ok, List.map_toArray, List.map_cons, List.map_nil, hs, hx, hrun]
theorem wpL_bytesz {ops : Array Oper} {Q : Exit → Act → World → Prop} {w : World} {r : List Oper} {o : Oper} {a : Act} {x : Operand} {l : List UInt8} (hl : l.length ≤ 140737488355328) (hw : Region.wanted o (yielded ops a.tmps) = true) (ho : o.op = .convert 9 22 x) (hx : a.eval x = str l)
    (h : ∀ v W, Of v.ownBlock none w.heap.size → Off [] w W → Owz W v l → wpList Tryz.prog ops Q r (a.put o.dst v) W) : wpList Tryz.prog ops Q (o :: r) a w :=
  wpL_bytes hl hw ho hx fun b c cs W h1 h2 h3 h4 h5 h6 h7 => h _ W (fun x hx hlt => by have e : b = x := Option.some.inj hx; omega) h2 (owz_blz h3 h4 h5 h6 h7)
end Go.Proofs.YtejkmhgkkibafaaGreatDoor
