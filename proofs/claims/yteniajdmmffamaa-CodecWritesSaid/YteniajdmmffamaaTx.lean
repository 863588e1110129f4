/- Texts: as lists of bytes. No conditions. -/
import Derived.Test.YteniajdmmffamaaSt
import Derived.Laws.BytesArg
import Derived.Laws.Concat
import Derived.Laws.IdiomStrings
namespace Go.Proofs.Yteniajdmmffamaa
set_option linter.unusedSimpArgs false
set_option linter.unusedVariables false
open Go.RowKit

theorem str_inj {l m : List UInt8} (h : str l = str m) : l = m := by
  unfold str at h
  injection h with h
  injection h with h
  simpa using h
theorem ba_eq (l m : List UInt8) : ((⟨l.toArray⟩ : ByteArray) == ⟨m.toArray⟩) = decide (l = m) := by
  have h : ((⟨l.toArray⟩ : ByteArray) == ⟨m.toArray⟩) = (l.toArray == m.toArray) := rfl
  rw [h, Bool.eq_iff_iff, beq_iff_eq, decide_eq_true_iff]
  exact ⟨fun h => by simpa using h, fun h => by rw [h]⟩
theorem ba_size (l : List UInt8) : (⟨l.toArray⟩ : ByteArray).size = l.length := by simp [ByteArray.size]
theorem ba_append (l m : List UInt8) : (⟨l.toArray⟩ : ByteArray) ++ ⟨m.toArray⟩ = ⟨(l ++ m).toArray⟩ := by
  apply ByteArray.ext
  simp [ByteArray.data_append]
theorem ba_extract (l : List UInt8) (a b : Nat) : (⟨l.toArray⟩ : ByteArray).extract a b = ⟨((l.take b).drop a).toArray⟩ := by
  apply ByteArray.ext
  simp [ByteArray.data_extract, List.drop_take]
theorem run_str {w : World} {v : Value} {l : List UInt8} (h : Sl w v l) : (convert 26 9 v).run Try.prog w = .ok (str l) w := by
  obtain ⟨A, c, rfl, h1, h2, h0, h3⟩ := h
  rcases A with _ | ad
  · have : l = [] := by
      cases l with
      | nil => rfl
      | cons x r => obtain ⟨ad, h, _⟩ := h3 0 x rfl; cases h
    subst this
    exact run_convert_bytes_nil w 26 5 Try.underlying26 Try.underlying5 _ _ 9 Try.underlying9
  · exact run_convert_bytes_back w 26 9 5 ad c l Try.underlying26 Try.underlying5 Try.underlying9 (fun j hj => by
      obtain ⟨ad', h, hc⟩ := h3 j _ (List.getElem?_eq_getElem hj)
      obtain rfl := Option.some.inj h
      exact hc)
section
variable {ops : Array Oper} {Q : Exit → Act → World → Prop} {w : World} {r : List Oper} {o : Oper} {a : Act} {E : Act → Prop}
/-- bytes as a text -/
theorem wpL_str {x : Operand} {v : Value} {l : List UInt8} (hs : Sl w v l) (hw : Region.wanted o (yielded ops a.tmps) = true) (ho : o.op = .convert 26 9 x) (hx : a.eval x = v)
    (h : wpList Try.prog ops Q r (a.put o.dst (str l)) w) : wpList Try.prog ops Q (o :: r) a w :=
  wpL_val hw (by simp [execOp, ho, hx, Sem.run_bind, run_str hs]) h
theorem wpX_str {x : Operand} {v : Value} {l : List UInt8} (hs : ∀ W, Ext w W → Sl W v l) (hw : Region.wanted o (yielded ops a.tmps) = true) (ho : o.op = .convert 26 9 x) (hx : a.eval x = v)
    (h : wpX Try.prog ops w E r (a.put o.dst (str l))) : wpX Try.prog ops w E (o :: r) a :=
  wpX_val hw (fun W hW => by simp [execOp, ho, hx, Sem.run_bind, run_str (hs W hW)]) h
/-- two texts, one behind the other -/
theorem run_cat {x y : Operand} {t : TypeId} {l m : List UInt8} (ho : o.op = .binOp .add 9 x y t) (hx : a.eval x = str l) (hy : a.eval y = str m) (hlen : l.length + m.length ≤ 9223372036854775807) : (execOp a.eval o).run Try.prog w = .ok (.value (str (l ++ m))) w := by
  simp only [execOp, ho, hx, hy, str, Sem.run_bind]
  simp [eqGuard, binOp, run_underlying Try.underlying9, go_sem, Sem.run_bind, ba_size]
  rw [if_neg (by omega), ba_append]
theorem wpL_cat {x y : Operand} {t : TypeId} {l m : List UInt8} (hlen : l.length + m.length ≤ 9223372036854775807) (hw : Region.wanted o (yielded ops a.tmps) = true) (ho : o.op = .binOp .add 9 x y t) (hx : a.eval x = str l) (hy : a.eval y = str m)
    (h : wpList Try.prog ops Q r (a.put o.dst (str (l ++ m))) w) : wpList Try.prog ops Q (o :: r) a w := wpL_val hw (run_cat ho hx hy hlen) h
theorem wpX_cat {x y : Operand} {t : TypeId} {l m : List UInt8} (hlen : l.length + m.length ≤ 9223372036854775807) (hw : Region.wanted o (yielded ops a.tmps) = true) (ho : o.op = .binOp .add 9 x y t) (hx : a.eval x = str l) (hy : a.eval y = str m)
    (h : wpX Try.prog ops w E r (a.put o.dst (str (l ++ m)))) : wpX Try.prog ops w E (o :: r) a := wpX_val hw (fun _ _ => run_cat ho hx hy hlen) h
/-- two texts compared -/
theorem run_streq {x y : Operand} {t : TypeId} {l m : List UInt8} (ho : o.op = .binOp .eql 9 x y t) (hx : a.eval x = str l) (hy : a.eval y = str m) : (execOp a.eval o).run Try.prog w = .ok (.value (.bool (decide (l = m)))) w := by
  have e := ba_eq l m
  simp only [execOp, ho, hx, hy, str]
  simp [eqGuard, binOp, Op.stringOp, go_sem, Sem.run_bind, e]
  rw [Bool.eq_iff_iff, beq_iff_eq, decide_eq_true_iff]
theorem wpL_streq {x y : Operand} {t : TypeId} {l m : List UInt8} {b : Bool} (hb : decide (l = m) = b) (hw : Region.wanted o (yielded ops a.tmps) = true) (ho : o.op = .binOp .eql 9 x y t) (hx : a.eval x = str l) (hy : a.eval y = str m)
    (h : wpList Try.prog ops Q r (a.put o.dst (.bool b)) w) : wpList Try.prog ops Q (o :: r) a w := wpL_val hw (hb ▸ run_streq ho hx hy) h
theorem wpX_streq {x y : Operand} {t : TypeId} {l m : List UInt8} {b : Bool} (hb : decide (l = m) = b) (hw : Region.wanted o (yielded ops a.tmps) = true) (ho : o.op = .binOp .eql 9 x y t) (hx : a.eval x = str l) (hy : a.eval y = str m)
    (h : wpX Try.prog ops w E r (a.put o.dst (.bool b))) : wpX Try.prog ops w E (o :: r) a := wpX_val hw (fun _ _ => hb ▸ run_streq ho hx hy) h
theorem run_strne {x y : Operand} {t : TypeId} {l m : List UInt8} (ho : o.op = .binOp .neq 9 x y t) (hx : a.eval x = str l) (hy : a.eval y = str m) : (execOp a.eval o).run Try.prog w = .ok (.value (.bool (!decide (l = m)))) w := by
  have e := ba_eq l m
  have e2 : ((⟨l.toArray⟩ : ByteArray) != ⟨m.toArray⟩) = !decide (l = m) := by rw [bne, e]
  simp only [execOp, ho, hx, hy, str]
  simp [eqGuard, binOp, Op.stringOp, go_sem, Sem.run_bind, e2]
  rw [Bool.eq_iff_iff, beq_iff_eq, decide_eq_true_iff]
/-- a text's length -/
theorem run_slen {x : Operand} {l : List UInt8} (ho : o.op = .call { callee := .builtin .len, args := #[x], argTypes := #[9] }) (hx : a.eval x = str l) : (execOp a.eval o).run Try.prog w = .ok (.value (.int .i64 (l.length : Int))) w := by
  have := ba_size l
  unfold execOp
  simp only [ho, resolve, invoke, builtin, Sem.run_bind, Sem.run_pure, Result.andThen_ok, List.map_toArray, List.map_cons, List.map_nil, hx, str]
  simp [Builtin.len_, run_underlying Try.underlying9, this, goInt, Sem.run_bind]
theorem wpL_slen {x : Operand} {l : List UInt8} (hw : Region.wanted o (yielded ops a.tmps) = true) (ho : o.op = .call { callee := .builtin .len, args := #[x], argTypes := #[9] }) (hx : a.eval x = str l)
    (h : wpList Try.prog ops Q r (a.put o.dst (.int .i64 (l.length : Int))) w) : wpList Try.prog ops Q (o :: r) a w := wpL_val hw (run_slen ho hx) h
/-- a slice's length -/
theorem run_len {x : Operand} {v : Value} {l : List UInt8} (hs : Sl w v l) (ho : o.op = .call { callee := .builtin .len, args := #[x], argTypes := #[26] }) (hx : a.eval x = v) : (execOp a.eval o).run Try.prog w = .ok (.value (.int .i64 (l.length : Int))) w := by
  obtain ⟨A, c, rfl, _⟩ := hs
  unfold execOp
  simp only [ho, resolve, invoke, builtin, Sem.run_bind, Sem.run_pure, Result.andThen_ok, List.map_toArray, List.map_cons, List.map_nil, hx]
  simp [Builtin.len_, run_underlying Try.underlying26, goInt, Sem.run_bind]
theorem wpL_len {x : Operand} {v : Value} {l : List UInt8} (hs : Sl w v l) (hw : Region.wanted o (yielded ops a.tmps) = true) (ho : o.op = .call { callee := .builtin .len, args := #[x], argTypes := #[26] }) (hx : a.eval x = v)
    (h : wpList Try.prog ops Q r (a.put o.dst (.int .i64 (l.length : Int))) w) : wpList Try.prog ops Q (o :: r) a w := wpL_val hw (run_len hs ho hx) h
/-- the head of a text -/
theorem run_shead {x y : Operand} {t : TypeId} {l : List UInt8} {n : Nat} (hn : n ≤ l.length) (ho : o.op = .slice t x none (some y) none) (ht : Try.prog.underlying t = some .string) (hx : a.eval x = str l) (hy : a.eval y = .int .i64 (n : Int)) : (execOp a.eval o).run Try.prog w = .ok (.value (str (l.take n))) w := by
  have h1 := ba_size l
  have h2 := ba_extract l 0 n
  unfold execOp
  simp only [ho, hx, hy, str, Option.map]
  simp [Instr.sliceAt, Instr.slice, Instr.sliceBounds, Instr.sliceBound, asIntOf, run_underlying ht, Sem.run_bind, h1, h2, hn]
theorem wpL_shead {x y : Operand} {t : TypeId} {l : List UInt8} {n : Nat} (hn : n ≤ l.length) (hw : Region.wanted o (yielded ops a.tmps) = true) (ho : o.op = .slice t x none (some y) none) (ht : Try.prog.underlying t = some .string) (hx : a.eval x = str l) (hy : a.eval y = .int .i64 (n : Int))
    (h : wpList Try.prog ops Q r (a.put o.dst (str (l.take n))) w) : wpList Try.prog ops Q (o :: r) a w := wpL_val hw (run_shead hn ho ht hx hy) h
end
/-- Block b holds the cells cs, and may be written (what bears a mark lies behind them). -/
def Blz (w : World) (b : Nat) (cs : Array Value) (t : TypeId) : Prop := ∃ fz : Nat × Nat, w.heap[b]? = some (.cells cs t fz) ∧ cs.size ≤ fz.1
theorem blz_lt {w : World} {b : Nat} {cs : Array Value} {t : TypeId} (h : Blz w b cs t) : b < w.heap.size := by obtain ⟨fz, h, _⟩ := h; exact lt_of_block h
theorem blz_off {F : List Nat} {w w' : World} {b : Nat} {cs : Array Value} {t : TypeId} (h : Blz w b cs t) (k : Off F w w') (hb : b ∉ F) : Blz w' b cs t := by
  have hl := blz_lt h
  obtain ⟨fz, h, h2⟩ := h
  exact ⟨fz, by rw [k.block b hl hb]; exact h, h2⟩
theorem blz_cell {w : World} {b : Nat} {cs : Array Value} {t : TypeId} (h : Blz w b cs t) : ∀ j, w.cell? ⟨b, j, none⟩ = cs[j]? := fun j => by
  obtain ⟨fz, h, _⟩ := h
  exact cell_of_row w b j cs t fz h
theorem blz_free {w : World} {b : Nat} {cs : Array Value} {t : TypeId} (h : Blz w b cs t) : ∀ j, j < cs.size → w.frozen? ⟨b, j, none⟩ = false := fun j hj => by
  obtain ⟨fz, h, h2⟩ := h
  simp [World.frozen?, h]
  omega
theorem blz_set {w : World} {b : Nat} {cs : Array Value} {t : TypeId} (h : Blz w b cs t) (j : Nat) (v : Value) : Blz (w.setCell ⟨b, j, none⟩ v) b (cs.setIfInBounds j v) t := by
  have hlt := blz_lt h
  obtain ⟨fz, h, h2⟩ := h
  refine ⟨fz, ?_, by simpa using h2⟩
  have h' : w.heap[b] = .cells cs t fz := by simpa [Array.getElem?_eq_getElem hlt] using h
  show (w.heap.modify b _)[b]? = _
  rw [Array.getElem?_eq_getElem (by simpa using hlt), Array.getElem_modify_self, h']
  rfl
theorem sl_blz {w : World} {g c : Nat} {l : List UInt8} {cs : Array Value} {t : TypeId} (h : Blz w g cs t) (hc : l.length ≤ c) (hm : c ≤ maxLen) (hl : cs.toList.take l.length = bs8 l) : Sl w (.slice (some ⟨g, 0, none⟩) l.length c) l := by
  refine ⟨some ⟨g, 0, none⟩, c, rfl, hc, hm, (fun h => by cases h), fun j x hj => ⟨_, rfl, ?_⟩⟩
  have hlt := (List.getElem?_eq_some_iff.1 hj).1
  have e := bs8_get hj
  rw [← hl, List.getElem?_take_of_lt hlt] at e
  rw [Addr.add_mid, blz_cell h, Nat.zero_add]
  simpa using e
/-- a text as bytes, in a new block -/
theorem run_bytes (w : World) (l : List UInt8) (hl : l.length ≤ 140737488355328) : ∃ W cs b c, (convert 9 26 (str l)).run Try.prog w = .ok (.slice (some ⟨b, 0, none⟩) l.length c) W ∧ w.heap.size ≤ b ∧ Off [] w W ∧ Blz W b cs 5 ∧ l.length ≤ c ∧ c ≤ maxLen ∧ cs.size = c ∧ cs.toList.take l.length = bs8 l := by
  have h := run_bytes_of_string (P := Try.prog) w 9 26 5 ⟨l.toArray⟩ Try.underlying9 Try.underlying26 Try.underlying5
  rw [ba_size] at h
  have hge := grownCap_ge w l.length 0 5
  have hs : (bytesRow ⟨l.toArray⟩ (grownCap w l.length 0 5)).size = grownCap w l.length 0 5 := by
    unfold bytesRow
    rw [ba_size]
    simp
    omega
  refine ⟨_, bytesRow ⟨l.toArray⟩ (grownCap w l.length 0 5), w.heap.size, grownCap w l.length 0 5, h, Nat.le_refl _, off_ext ((Below.refl _ _).drew.alloc (Nat.le_refl _) _), ⟨((bytesRow ⟨l.toArray⟩ (grownCap w l.length 0 5)).size, (bytesRow ⟨l.toArray⟩ (grownCap w l.length 0 5)).size + 1), ?_, Nat.le_refl _⟩, hge, grownCap_le_maxLen _ _ _ _ (by unfold maxLen; omega), hs, ?_⟩
  · show (w.heap.push _)[w.heap.size]? = _
    simp
  · unfold bytesRow bs8
    simp
section
variable {ops : Array Oper} {Q : Exit → Act → World → Prop} {w : World} {r : List Oper} {o : Oper} {a : Act} {E : Act → Prop}
theorem wpL_bytes {x : Operand} {l : List UInt8} (hl : l.length ≤ 140737488355328) (hw : Region.wanted o (yielded ops a.tmps) = true) (ho : o.op = .convert 9 26 x) (hx : a.eval x = str l)
    (h : ∀ b c cs W, w.heap.size ≤ b → Off [] w W → Blz W b cs 5 → l.length ≤ c → c ≤ maxLen → cs.size = c → cs.toList.take l.length = bs8 l → wpList Try.prog ops Q r (a.put o.dst (.slice (some ⟨b, 0, none⟩) l.length c)) W) : wpList Try.prog ops Q (o :: r) a w := by
  obtain ⟨W, cs, b, c, hrun, h1, h2, h3, h4, h5, h6, h7⟩ := run_bytes w l hl
  refine wpL_run hw (W := W) ?_ (h b c cs W h1 h2 h3 h4 h5 h6 h7)
  simp [execOp, ho, hx, Sem.run_bind, hrun]
/-- a store of a cell in such a block -/
theorem wpL_putz {ty t : TypeId} {x y : Operand} {b j : Nat} {cs : Array Value} {v : Value} (hv : v.cells = #[v] ∧ v.oneCell' = true) (hw : Region.wanted o (yielded ops a.tmps) = true) (ho : o.op = .store ty x y) (hx : a.eval x = .pointer (some ⟨b, j, none⟩)) (hy : a.eval y = v)
    (hB : Blz w b cs t) (hs : j < cs.size) (hi : (Try.prog.info? ty).map (·.size) = some 1)
    (h : ∀ W, Off [b] w W → Blz W b (cs.setIfInBounds j v) t → wpList Try.prog ops Q r (a.put o.dst undef) W) : wpList Try.prog ops Q (o :: r) a w := by
  unfold wpList; rw [if_pos hw]
  refine .inl ?_
  unfold Oper.wp
  have hc : (w.cell? ⟨b, j, none⟩).isSome = true := by rw [blz_cell hB, Array.getElem?_eq_getElem hs]; rfl
  have hf := blz_free hB j hs
  have := run_storeCells_cells (P := Try.prog) b j [v] 0 w (fun k hk => by
      have : k = 0 := by simpa using hk
      subst this; simpa using hc) (fun k hk => by
      have : k = 0 := by simpa using hk
      subst this; simpa using hf) (fun u hu => by rw [List.mem_singleton.1 hu]; exact hv.2)
  have hr : (execOp a.eval o).run Try.prog w = .ok .skip (w.setCell ⟨b, j, none⟩ v) := by
    cases hq : Try.prog.info? ty with
    | none => simp [hq] at hi
    | some i =>
      have hsz : i.size = 1 := by simpa [hq] using hi
      simp only [Nat.add_zero, World.setCells] at this
      simp [execOp, ho, hx, hy, Sem.run_bind, Instr.storeAt, Instr.sureAddr, storeVar, sizeOf, typeInfo, hq, hsz, hv.1, this]
  rw [hr]
  exact h _ ⟨rfl, rfl, rfl, by simp [World.setCell], fun k _ hk => Below.heap_setCell w ⟨b, j, none⟩ v k (by simpa using hk)⟩ (blz_set hB j v)
end
section
variable {ops : Array Oper} {Q : Exit → Act → World → Prop} {w : World} {r : List Oper} {o : Oper} {a : Act} {E : Act → Prop}
theorem u8_size : (Try.prog.info? 5).map (·.size) = some 1 := by kernel_rfl
theorem run_ixa {w : World} {x y : Operand} {k : IntKind} {ad : Addr} {n c j : Nat} (hj : j < n) (ho : o.op = .indexAddr 26 x y) (hx : a.eval x = .slice (some ad) n c) (hy : a.eval y = .int k (j : Int)) :
    (execOp a.eval o).run Try.prog w = .ok (.value (.pointer (some (ad.add j)))) w := by
  have h1 := u8_size
  cases hq : Try.prog.info? 5 with
  | none => simp [hq] at h1
  | some i =>
    have hs : i.size = 1 := by simpa [hq] using h1
    simp [execOp, ho, hx, hy, Instr.indexAt, asIntOf, run_underlying Try.underlying26, Sem.run_bind, sizeOf, typeInfo, hq, hs, hj]
/-- the place of a byte -/
theorem wpL_ixa {x y : Operand} {k : IntKind} {b off n c j : Nat} (hj : j < n) (hw : Region.wanted o (yielded ops a.tmps) = true) (ho : o.op = .indexAddr 26 x y) (hx : a.eval x = .slice (some ⟨b, off, none⟩) n c) (hy : a.eval y = .int k (j : Int))
    (h : wpList Try.prog ops Q r (a.put o.dst (.pointer (some ⟨b, off + j, none⟩))) w) : wpList Try.prog ops Q (o :: r) a w :=
  wpL_val hw (by rw [run_ixa hj ho hx hy, Addr.add_mid]) h
end
theorem sb_own {v : Value} {l : List UInt8} {x : Nat} (h : sb v l = some x) : v.ownBlock = some x := by
  unfold sb at h
  split at h
  · cases h
  · exact h
theorem ne_sb {v : Value} {l : List UInt8} {b : Nat} (h : v.ownBlock ≠ some b) : sb v l ≠ some b := fun e => h (sb_own e)
theorem dj_sb {O : Option Nat} {v : Value} {l : List UInt8} (h : ∀ x, O = some x → v.ownBlock ≠ some x) : ∀ x, O = some x → sb v l ≠ some x := fun x hx e => h x hx (sb_own e)
theorem freeze_heap (w : World) (g n : Nat) (cs : Array Value) (t : TypeId) (fz : Nat × Nat) (h : w.heap[g]? = some (.cells cs t fz)) : ∃ fz', (w.freeze ⟨g, n, none⟩ 1).heap[g]? = some (.cells cs t fz') := by
  have hlt := lt_of_block h
  have h' : w.heap[g] = .cells cs t fz := by simpa [Array.getElem?_eq_getElem hlt] using h
  unfold World.freeze
  rw [if_neg (by decide)]
  refine ⟨if fz.1 == fz.2 then (n, n + 1) else (min fz.1 n, max fz.2 (n + 1)), ?_⟩
  show (w.heap.modify g _)[g]? = _
  rw [Array.getElem?_eq_getElem (by simpa using hlt), Array.getElem_modify_self, h']
theorem run_same {w : World} {v : Value} {l : List UInt8} {g : Nat} (hs : Own w v l) (hg : v.ownBlock = some g) : ∃ W, (convert 26 26 v).run Try.prog w = .ok v W ∧ Off v.ownBlock.toList w W ∧ Sl W v l := by
  have hsl := hs.sl
  rcases hs.2 with ⟨rfl, _⟩ | ⟨g', cap, cur, rfl, _, hh, hc, hm, hsz, ht⟩
  · cases hg
  · obtain rfl : g' = g := Option.some.inj hg
    have hshape : w.shape? g' = some (5, cur.size) := by unfold World.shape?; rw [hh]
    obtain ⟨fz, hf⟩ := freeze_heap w g' cur.size cur _ _ hh
    refine ⟨w.freeze ⟨g', cur.size, none⟩ 1, ?_, ⟨rfl, rfl, rfl, ?_, ?_⟩, ?_⟩
    · simp [convert, run_underlying Try.underlying26, run_underlying Try.underlying5, Sem.run_bind, markStringish, hshape]
    · unfold World.freeze; rw [if_neg (by decide)]; simp
    · intro k hk hn
      have : k ≠ g' := fun e => hn (by rw [e]; simp [Value.ownBlock])
      unfold World.freeze
      rw [if_neg (by decide)]
      show (w.heap.modify g' _)[k]? = _
      rw [Array.getElem?_modify, if_neg (by omega)]
    · obtain ⟨A, c, e, h1, h2, h0, h3⟩ := hsl
      injection e with e1 e2 e3
      subst e1; subst e3
      refine ⟨some ⟨g', 0, none⟩, cap, rfl, h1, h2, h0, fun j x hj => ?_⟩
      obtain ⟨ad, e, hcell⟩ := h3 j x hj
      obtain rfl := Option.some.inj e
      refine ⟨_, rfl, ?_⟩
      rw [Addr.add_mid] at hcell ⊢
      rw [cell_of_row _ g' _ cur _ fz hf]
      rw [cell_of_row _ g' _ cur _ _ hh] at hcell
      exact hcell
theorem wpL_same {ops : Array Oper} {Q : Exit → Act → World → Prop} {w : World} {r : List Oper} {o : Oper} {a : Act} {x : Operand} {v : Value} {l : List UInt8} {g : Nat} (hs : Own w v l) (hg : v.ownBlock = some g) (hw : Region.wanted o (yielded ops a.tmps) = true) (ho : o.op = .convert 26 26 x) (hx : a.eval x = v)
    (h : ∀ W, Off v.ownBlock.toList w W → Sl W v l → wpList Try.prog ops Q r (a.put o.dst v) W) : wpList Try.prog ops Q (o :: r) a w := by
  obtain ⟨W, hrun, h1, h2⟩ := run_same hs hg
  exact wpL_run hw (W := W) (by simp [execOp, ho, hx, hrun, Sem.run_bind]) (h W h1 h2)
end Go.Proofs.Yteniajdmmffamaa
