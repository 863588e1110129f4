/- Rows of bytes that began as a text: a mark lies behind their last cell; they may be appended to. What the document's sum needs: the schedule in one loop, places, bytes of the words, the tables of the document. -/
import Derived.Test.YtefpoollmbmkfaaDoorGc
import Derived.Test.YtefpoollmbmkfaaDoorShD
set_option linter.unusedSimpArgs false
set_option linter.unusedVariables false
namespace Go.Proofs.YtefpoollmbmkfaaDoor
open Go.RowKit
set_option linter.unusedSimpArgs false
def Owz (w : World) (v : Value) (l : List UInt8) : Prop :=
  ∃ (g cap : Nat) (cs : Array Value) (fz : Nat × Nat), v = .slice (some ⟨g, 0, none⟩) l.length cap ∧ w.heap[g]? = some (.cells cs 5 fz) ∧ (fz.1 = fz.2 ∨ cs.size ≤ fz.1) ∧ l.length ≤ cap ∧ cap ≤ maxLen ∧ cs.size = cap ∧ cs.toList.take l.length = bs8 l
theorem Owz.lt {w : World} {v : Value} {l : List UInt8} (h : Owz w v l) : ∀ g, v.ownBlock = some g → g < w.heap.size := by
  intro x hx
  obtain ⟨g, cap, cs, fz, rfl, hh, _⟩ := h
  obtain rfl : g = x := Option.some.inj hx
  exact lt_of_block hh
theorem Owz.off {F : List Nat} {w w' : World} {v : Value} {l : List UInt8} (h : Owz w v l) (k : Off F w w') (hF : ∀ b ∈ F, v.ownBlock ≠ some b) : Owz w' v l := by
  obtain ⟨g, cap, cs, fz, rfl, hh, r⟩ := h
  exact ⟨g, cap, cs, fz, rfl, by rw [k.block g (lt_of_block hh) (fun hx => hF g hx rfl)]; exact hh, r⟩
theorem Owz.cells {w : World} {g cap : Nat} {l : List UInt8} {cs : Array Value} {fz : Nat × Nat} (hh : w.heap[g]? = some (.cells cs 5 fz)) (ht : cs.toList.take l.length = bs8 l) : ∀ j u, (bs8 l)[j]? = some u → w.cell? ((⟨g, 0, none⟩ : Addr).add j) = some u := fun j u hu => by
  rw [Addr.add_mid, cell_of_row w g _ cs _ _ hh, Nat.zero_add]
  rw [← ht, List.getElem?_take] at hu
  split at hu
  · simpa using hu
  · cases hu
theorem Owz.sl {w : World} {v : Value} {l : List UInt8} (h : Owz w v l) : Sl w v l := by
  obtain ⟨g, cap, cs, fz, rfl, hh, hf, hc, hm, hs, ht⟩ := h
  exact ⟨some ⟨g, 0, none⟩, cap, rfl, hc, hm, (fun h => by cases h), fun j x hj => ⟨_, rfl, Owz.cells (cap := cap) hh ht j _ (Q4g hj)⟩⟩
theorem Owz.len {w : World} {v : Value} {l : List UInt8} (h : Owz w v l) : ∃ A c, v = .slice A l.length c ∧ l.length ≤ c := by
  obtain ⟨g, cap, cs, fz, rfl, _, _, hc, _⟩ := h
  exact ⟨_, _, rfl, hc⟩
theorem Y4v {w : World} {g c : Nat} {l : List UInt8} {cs : Array Value} (h : Blz w g cs 5) (hc : l.length ≤ c) (hm : c ≤ maxLen) (hs : cs.size = c) (hl : cs.toList.take l.length = bs8 l) : Owz w (.slice (some ⟨g, 0, none⟩) l.length c) l := by
  obtain ⟨fz, h1, h2⟩ := h
  exact ⟨g, c, cs, fz, rfl, h1, .inr h2, hc, hm, hs, hl⟩
theorem J8b {P : Program} (g o : Nat) (t : TypeId) (fz : Nat × Nat) : ∀ (vs : List Value) (i : Nat) (cur : Array Value) (w : World), w.heap[g]? = some (.cells cur t fz) → (fz.1 = fz.2 ∨ cur.size ≤ fz.1) → o + i + vs.length ≤ cur.size → (∀ v ∈ vs, v.oneCell' = true) →
    (storeCells ⟨g, o, none⟩ vs i).run P w = .ok () (w.setRow g (cur.toList.take (o + i) ++ vs ++ cur.toList.drop (o + i + vs.length)).toArray)
  | [], i, cur, w, hg, _, _, _ => by
    simp only [storeCells, List.append_nil, List.length_nil, Nat.add_zero, List.take_append_drop, Array.toArray_toList]
    rw [setRow_self w g cur t fz hg]
    rfl
  | v :: rest, i, cur, w, hg, hz, hl, h1 => by
    have hi : o + i < cur.size := by simp at hl; omega
    have hadd : (⟨g, o, none⟩ : Addr).add i = ⟨g, o + i, none⟩ := by unfold Addr.add; split <;> simp_all
    have hcell : w.cell? ⟨g, o + i, none⟩ = some cur[o + i] := by simp [World.cell?, hg, hi]
    have hfro : w.frozen? ⟨g, o + i, none⟩ = false := by simp [World.frozen?, hg]; omega
    have hst : (store ((⟨g, o, none⟩ : Addr).add i) v).run P w = .ok () (w.setRow g (cur.setIfInBounds (o + i) v)) := by
      rw [hadd, run_store P w _ v _ (h1 v (by simp)), hcell]
      simp [hfro, setCell_eq_setRow w g (o + i) cur t fz v hg]
    have ih := J8b (P := P) g o t fz rest (i + 1) (cur.setIfInBounds (o + i) v) (w.setRow g (cur.setIfInBounds (o + i) v)) (setRow_heap w g cur _ t _ hg) (by simpa using hz) (by simp at hl ⊢; omega) (fun x hx => h1 x (by simp [hx]))
    simp only [storeCells, Sem.run_bind, hst, Result.andThen_ok, ih, setRow_setRow]
    congr 3
    have e := list_seg_step cur.toList (o + i) v rest (by simp at hl ⊢; omega)
    simpa [Array.toList_setIfInBounds, Nat.add_assoc] using e
theorem Q8z (w : World) (ty : TypeId) {v u : Value} {l m : List UInt8} (hown : Owz w v l) (hs : Sl w u m) (hlen : l.length + m.length ≤ 140737488355328) :
    ∃ v' W, (Builtin.append_ #[23, 23] ty #[v, u]).run Tryd.prog w = .ok v' W ∧ Owz W v' (l ++ m) ∧ Off v.ownBlock.toList w W ∧ (v'.ownBlock = v.ownBlock ∨ v'.ownBlock = some w.heap.size) := by
  obtain ⟨i, hi, hz, hsz, hby⟩ := info_parts J8w
  have ht := Tryd.underlying23
  obtain ⟨g, cap, cs, fz, rfl, hh, hf, hc, hm, hcs, htk⟩ := hown
  obtain ⟨A, c, rfl, _, _, _, hcell⟩ := hs
  rcases A with _ | ad
  · have : m = [] := by
      cases m with
      | nil => rfl
      | cons x r => obtain ⟨ad, h, _⟩ := hcell 0 x rfl; cases h
    subst this
    refine ⟨.slice (some ⟨g, 0, none⟩) l.length cap, w, ?_, by rw [List.append_nil]; exact ⟨g, cap, cs, fz, rfl, hh, hf, hc, hm, hcs, htk⟩, Off.refl _ _, .inl rfl⟩
    simp [Builtin.append_, run_underlying ht, sizeOf, typeInfo, hi, Builtin.lenOf, Builtin.firstCells, hc, storeCells]
  · have hnews : ∀ j x, (bs8 m)[j]? = some x → w.cell? (ad.add j) = some x := fun j x hx => by
      simp only [bs8, List.getElem?_map, Option.map_eq_some_iff] at hx
      obtain ⟨y, hy, rfl⟩ := hx
      obtain ⟨ad', h, hc'⟩ := hcell j y hy
      obtain rfl := Option.some.inj h
      exact hc'
    by_cases hroom : l.length + m.length ≤ cap
    · have hfc := run_firstCells_some (P := Tryd.prog) w 1 m.length ad m.length c (bs8 m) (by rw [J0o, Nat.mul_one]) hnews
      have hst := J8b (P := Tryd.prog) g (l.length * 1) 5 fz (bs8 m) 0 cs w hh hf (by rw [J0o, hcs]; omega) (Q4f m)
      simp only [Nat.add_zero, Nat.mul_one] at hst
      refine ⟨.slice (some ⟨g, 0, none⟩) (l.length + m.length) cap, w.setRow g (cs.toList.take l.length ++ bs8 m ++ cs.toList.drop (l.length + (bs8 m).length)).toArray, ?_, ?_, ?_, .inl rfl⟩
      · simp [Builtin.append_, run_underlying ht, sizeOf, typeInfo, hi, hsz, Builtin.lenOf, hroom, hfc, Addr.add_lit, hst]
      · have hsize : ((cs.toList.take l.length ++ bs8 m ++ cs.toList.drop (l.length + (bs8 m).length)).toArray).size = cs.size := by
          simp only [List.size_toArray, List.length_append, List.length_take, List.length_drop, Array.length_toList, J0o]
          omega
        refine ⟨g, cap, _, fz, by rw [List.length_append], setRow_heap w g cs _ 5 fz hh, by rw [hsize]; exact hf, by rw [List.length_append]; exact hroom, hm, by rw [hsize]; exact hcs, ?_⟩
        rw [htk, ← J74, ← J0o (l ++ m)]
        exact List.take_left
      · exact ⟨rfl, rfl, rfl, by simp, fun k hk hn => setRow_other w g k _ (fun e => hn (by simp [Value.ownBlock, e]))⟩
    · have hr := run_append_grow (P := Tryd.prog) w 23 ty 5 i (.int .u8 0) ht hi hz ⟨g, 0, none⟩ l.length cap (bs8 l) (by rw [J0o, hsz, Nat.mul_one]) (Owz.cells (cap := cap) hh htk) ad m.length c (bs8 m) (by rw [J0o, hsz, Nat.mul_one]) hnews (by omega) (by omega)
        (growslice_fits (by omega) (by rw [hby]; omega))
      have hge := grownCap_ge w (l.length + m.length) cap 5
      have hcm : grownCap w (l.length + m.length) cap 5 ≤ maxLen := grownCap_le_maxLen w (l.length + m.length) cap 5 (by unfold maxLen; omega)
      refine ⟨_, _, hr, ⟨w.heap.size, _, _, (0, 0), by rw [List.length_append], heap_alloc_new w.drew _, .inl rfl, by rw [List.length_append]; exact hge, hcm, ?_, ?_⟩, Z6 ((Below.refl _ _).drew.alloc (Nat.le_refl _) _) |>.mono (fun x hx => by cases hx), .inr rfl⟩
      · simp only [Array.size_append, List.size_toArray, size_zeroCells, J0o, Value.cells]
        simp
        omega
      · simp only [Array.toList_append, List.append_assoc]
        rw [← List.append_assoc, ← J74, ← J0o (l ++ m)]
        exact List.take_left
theorem J0s {ops : Array Oper} {Q : Exit → Act → World → Prop} {w : World} {l : List Oper} {o : Oper} {a : Act} {s x : Operand} {v u : Value} {xs ys : List UInt8} (hw : Region.wanted o (yielded ops a.tmps) = true)
    (ho : o.op = .call { callee := .builtin .append, args := #[s, x], argTypes := #[23, 23] }) (hs : a.eval s = v) (hx : a.eval x = u) (hown : Owz w v xs) (hsl : Sl w u ys) (hlen : xs.length + ys.length ≤ 140737488355328)
    (h : ∀ v' W, Owz W v' (xs ++ ys) → Off v.ownBlock.toList w W → Of v'.ownBlock v.ownBlock w.heap.size → wpList Tryd.prog ops Q l (a.put o.dst v') W) : wpList Tryd.prog ops Q (o :: l) a w := by
  obtain ⟨v', W, hrun, h1, h2, h3⟩ := Q8z w o.type hown hsl hlen
  refine J7f hw (v := v') (W := W) ?_ (h v' W h1 h2 (Z44 h3))
  unfold execOp
  simp only [ho, resolve, invoke, builtin, Sem.run_bind, Sem.run_pure, Result.andThen_ok, List.map_toArray, List.map_cons, List.map_nil, hs, hx, hrun]
theorem Z1u {ops : Array Oper} {Q : Exit → Act → World → Prop} {w : World} {r : List Oper} {o : Oper} {a : Act} {x : Operand} {l : List UInt8} (hl : l.length ≤ 140737488355328) (hw : Region.wanted o (yielded ops a.tmps) = true) (ho : o.op = .convert 9 23 x) (hx : a.eval x = str l)
    (h : ∀ v W, Of v.ownBlock none w.heap.size → Off [] w W → Owz W v l → wpList Tryd.prog ops Q r (a.put o.dst v) W) : wpList Tryd.prog ops Q (o :: r) a w :=
  J6u hl hw ho hx fun b c cs W h1 h2 h3 h4 h5 h6 h7 => h _ W (fun x hx hlt => by have e : b = x := Option.some.inj hx; omega) h2 (Y4v h3 h4 h5 h6 h7)
end Go.Proofs.YtefpoollmbmkfaaDoor

namespace Go.Proofs.YtefpoollmbmkfaaDoor
open Go.RowKit
def GR (w : World) : Prop := Rd w 7 (J1 .u64 80 kf) ∧ Rd w 6 (J1 .u64 8 hf)
theorem J59 {w W : World} (h : GR w) (e : Ext w W) : GR W := ⟨h.1.ext e, h.2.ext e⟩
def rst (b : Nat → Int) (i : Nat) : Nat → Int := if i < 16 then fst b (8 * i) else Y9 b i
theorem Z1v {b : Nat → Int} {i : Nat} (h : i < 16) : rst b i = fst b (8 * i) := if_pos h
theorem Q90 {b : Nat → Int} {i : Nat} (h : 16 ≤ i) : rst b i = Y9 b i := if_neg (by omega)
theorem Y08 {b : Nat → Int} {i : Nat} (h : i < 16) : fst b (8 * i + 8) = rst b (i + 1) := by
  by_cases h2 : i + 1 < 16
  · rw [Z1v h2]; rfl
  · obtain rfl : i = 15 := by omega
    rw [Q90 (by omega)]
    exact Z4e b
theorem Y09 (P : List UInt8) (n i k : Nat) (hi : i < 16) (hk : k < 8) : upd (fst (bt (P.drop n)) (8 * i + k)) i (oo (sl (fst (bt (P.drop n)) (8 * i + k) i) 8) (bt P (n + 8 * i + k))) = fst (bt (P.drop n)) (8 * i + (k + 1)) := by
  have h := Z0c (bt (P.drop n)) (8 * i + k)
  rw [show (8 * i + k) / 8 = i by omega, Y4t, ← Nat.add_assoc] at h
  exact h
def bo (H : Nat → Int) (j : Nat) : UInt8 := u8 (ob H j).toNat
theorem Y0a (H : Nat → Int) (j : Nat) : ((bo H j).toNat : Int) = ob H j := by
  have := V2k (sr (H (j / 8)) (8 * (7 - j % 8)))
  unfold bo
  rw [Q27]
  unfold ob
  omega
theorem J7h (H : Nat → Int) (i k : Nat) (hk : k < 8) : w8 (sr (H i) (8 * (7 - k))) = ((bo H (8 * i + k)).toNat : Int) := by
  rw [Y0a]
  unfold ob
  rw [show (8 * i + k) / 8 = i by omega, show (8 * i + k) % 8 = k by omega]
def wb (H : Nat → Int) (n : Nat) : List UInt8 := (List.range n).map (bo H)
theorem J07 (H : Nat → Int) (n : Nat) : (wb H n).length = n := by simp [wb]
theorem Z4j (H : Nat → Int) (i : Nat) : wb H (8 * i) ++ [bo H (8 * i + 0)] ++ [bo H (8 * i + 1)] ++ [bo H (8 * i + 2)] ++ [bo H (8 * i + 3)] ++ [bo H (8 * i + 4)] ++ [bo H (8 * i + 5)] ++ [bo H (8 * i + 6)] ++ [bo H (8 * i + 7)] = wb H (8 * (i + 1)) := by
  unfold wb
  rw [show 8 * (i + 1) = 8 * i + 7 + 1 by omega]
  simp only [List.range_succ, List.map_append, List.map_cons, List.map_nil, List.append_assoc, Nat.add_zero, List.cons_append, List.nil_append]
def smb (l : List UInt8) : List UInt8 := wb (Hs (Y0 l) (nb l.length)) 64
theorem Q61 (l : List UInt8) : (smb l).length = 64 := J07 _ _
theorem Z6i (l : List UInt8) : (J1 .u8 64 (sm l)).toList = bs8 (smb l) := by
  unfold J1 bs8 smb wb
  rw [List.map_map]
  simp only [List.map_inj_left, Function.comp]
  intro j _
  rw [Y0a]; rfl
theorem Y4w (L : List UInt8) (X : Nat) : L ++ [0] ++ [0] ++ [0] ++ [0] ++ [0] ++ [0] ++ [0] ++ [0] ++ [u8 (X / 72057594037927936)] ++ [u8 (X / 281474976710656)] ++ [u8 (X / 1099511627776)] ++ [u8 (X / 4294967296)] ++ [u8 (X / 16777216)] ++ [u8 (X / 65536)] ++ [u8 (X / 256)] ++ [u8 X] = L ++ List.replicate 8 0 ++ be8 X := by
  simp only [be8, List.append_assoc, List.cons_append, List.nil_append, List.replicate]
end Go.Proofs.YtefpoollmbmkfaaDoor
