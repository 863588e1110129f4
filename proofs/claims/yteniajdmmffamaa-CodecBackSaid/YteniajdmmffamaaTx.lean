/- Texts: as lists of bytes. No conditions. -/
import Derived.Test.YteniajdmmffamaaSt
import Derived.Laws.BytesArg
import Derived.Laws.Concat
import Derived.Laws.IdiomStrings
import Derived.Laws.CopyRow
import Derived.Laws.OwnMore
import Derived.Laws.MakeOwn
namespace Go.Proofs.Yteniajdmmffamaa
set_option linter.unusedSimpArgs false
set_option linter.unusedVariables false
open Go.RowKit

theorem str_inj {l m : List UInt8} (h : str l = str m) : l = m := by
  unfold str at h
  injection h with h
  injection h with h
  simpa using h
theorem ba_eq (l m : List UInt8) : ((⟨l.toArray⟩ : ByteArray) == ⟨m.toArray⟩) = decide (l = m) := by
  have h : ((⟨l.toArray⟩ : ByteArray) == ⟨m.toArray⟩) = (l.toArray == m.toArray) := rfl
  rw [h, Bool.eq_iff_iff, beq_iff_eq, decide_eq_true_iff]
  exact ⟨fun h => by simpa using h, fun h => by rw [h]⟩
theorem ba_size (l : List UInt8) : (⟨l.toArray⟩ : ByteArray).size = l.length := by simp [ByteArray.size]
theorem ba_append (l m : List UInt8) : (⟨l.toArray⟩ : ByteArray) ++ ⟨m.toArray⟩ = ⟨(l ++ m).toArray⟩ := by
  apply ByteArray.ext
  simp [ByteArray.data_append]
theorem ba_extract (l : List UInt8) (a b : Nat) : (⟨l.toArray⟩ : ByteArray).extract a b = ⟨((l.take b).drop a).toArray⟩ := by
  apply ByteArray.ext
  simp [ByteArray.data_extract, List.drop_take]
theorem run_str {w : World} {v : Value} {l : List UInt8} (h : Sl w v l) : (convert 26 9 v).run Try.prog w = .ok (str l) w := by
  obtain ⟨A, c, rfl, h1, h2, h0, h3⟩ := h
  rcases A with _ | ad
  · have : l = [] := by
      cases l with
      | nil => rfl
      | cons x r => obtain ⟨ad, h, _⟩ := h3 0 x rfl; cases h
    subst this
    exact run_convert_bytes_nil w 26 5 Try.underlying26 Try.underlying5 _ _ 9 Try.underlying9
  · exact run_convert_bytes_back w 26 9 5 ad c l Try.underlying26 Try.underlying5 Try.underlying9 (fun j hj => by
      obtain ⟨ad', h, hc⟩ := h3 j _ (List.getElem?_eq_getElem hj)
      obtain rfl := Option.some.inj h
      exact hc)
section
variable {ops : Array Oper} {Q : Exit → Act → World → Prop} {w : World} {r : List Oper} {o : Oper} {a : Act} {E : Act → Prop}
/-- bytes as a text -/
theorem wpL_str {x : Operand} {v : Value} {l : List UInt8} (hs : Sl w v l) (hw : Region.wanted o (yielded ops a.tmps) = true) (ho : o.op = .convert 26 9 x) (hx : a.eval x = v)
    (h : wpList Try.prog ops Q r (a.put o.dst (str l)) w) : wpList Try.prog ops Q (o :: r) a w :=
  wpL_val hw (by simp [execOp, ho, hx, Sem.run_bind, run_str hs]) h
theorem wpX_str {x : Operand} {v : Value} {l : List UInt8} (hs : ∀ W, Ext w W → Sl W v l) (hw : Region.wanted o (yielded ops a.tmps) = true) (ho : o.op = .convert 26 9 x) (hx : a.eval x = v)
    (h : wpX Try.prog ops w E r (a.put o.dst (str l))) : wpX Try.prog ops w E (o :: r) a :=
  wpX_val hw (fun W hW => by simp [execOp, ho, hx, Sem.run_bind, run_str (hs W hW)]) h
/-- two texts, one behind the other -/
theorem run_cat {x y : Operand} {t : TypeId} {l m : List UInt8} (ho : o.op = .binOp .add 9 x y t) (hx : a.eval x = str l) (hy : a.eval y = str m) (hlen : l.length + m.length ≤ 9223372036854775807) : (execOp a.eval o).run Try.prog w = .ok (.value (str (l ++ m))) w := by
  simp only [execOp, ho, hx, hy, str, Sem.run_bind]
  simp [eqGuard, binOp, run_underlying Try.underlying9, go_sem, Sem.run_bind, ba_size]
  rw [if_neg (by omega), ba_append]
theorem wpL_cat {x y : Operand} {t : TypeId} {l m : List UInt8} (hlen : l.length + m.length ≤ 9223372036854775807) (hw : Region.wanted o (yielded ops a.tmps) = true) (ho : o.op = .binOp .add 9 x y t) (hx : a.eval x = str l) (hy : a.eval y = str m)
    (h : wpList Try.prog ops Q r (a.put o.dst (str (l ++ m))) w) : wpList Try.prog ops Q (o :: r) a w := wpL_val hw (run_cat ho hx hy hlen) h
theorem wpX_cat {x y : Operand} {t : TypeId} {l m : List UInt8} (hlen : l.length + m.length ≤ 9223372036854775807) (hw : Region.wanted o (yielded ops a.tmps) = true) (ho : o.op = .binOp .add 9 x y t) (hx : a.eval x = str l) (hy : a.eval y = str m)
    (h : wpX Try.prog ops w E r (a.put o.dst (str (l ++ m)))) : wpX Try.prog ops w E (o :: r) a := wpX_val hw (fun _ _ => run_cat ho hx hy hlen) h
/-- two texts compared -/
theorem run_streq {x y : Operand} {t : TypeId} {l m : List UInt8} (ho : o.op = .binOp .eql 9 x y t) (hx : a.eval x = str l) (hy : a.eval y = str m) : (execOp a.eval o).run Try.prog w = .ok (.value (.bool (decide (l = m)))) w := by
  have e := ba_eq l m
  simp only [execOp, ho, hx, hy, str]
  simp [eqGuard, binOp, Op.stringOp, go_sem, Sem.run_bind, e]
  rw [Bool.eq_iff_iff, beq_iff_eq, decide_eq_true_iff]
theorem wpL_streq {x y : Operand} {t : TypeId} {l m : List UInt8} {b : Bool} (hb : decide (l = m) = b) (hw : Region.wanted o (yielded ops a.tmps) = true) (ho : o.op = .binOp .eql 9 x y t) (hx : a.eval x = str l) (hy : a.eval y = str m)
    (h : wpList Try.prog ops Q r (a.put o.dst (.bool b)) w) : wpList Try.prog ops Q (o :: r) a w := wpL_val hw (hb ▸ run_streq ho hx hy) h
theorem wpX_streq {x y : Operand} {t : TypeId} {l m : List UInt8} {b : Bool} (hb : decide (l = m) = b) (hw : Region.wanted o (yielded ops a.tmps) = true) (ho : o.op = .binOp .eql 9 x y t) (hx : a.eval x = str l) (hy : a.eval y = str m)
    (h : wpX Try.prog ops w E r (a.put o.dst (.bool b))) : wpX Try.prog ops w E (o :: r) a := wpX_val hw (fun _ _ => hb ▸ run_streq ho hx hy) h
theorem run_strne {x y : Operand} {t : TypeId} {l m : List UInt8} (ho : o.op = .binOp .neq 9 x y t) (hx : a.eval x = str l) (hy : a.eval y = str m) : (execOp a.eval o).run Try.prog w = .ok (.value (.bool (!decide (l = m)))) w := by
  have e := ba_eq l m
  have e2 : ((⟨l.toArray⟩ : ByteArray) != ⟨m.toArray⟩) = !decide (l = m) := by rw [bne, e]
  simp only [execOp, ho, hx, hy, str]
  simp [eqGuard, binOp, Op.stringOp, go_sem, Sem.run_bind, e2]
  rw [Bool.eq_iff_iff, beq_iff_eq, decide_eq_true_iff]
/-- a text's length -/
theorem run_slen {x : Operand} {l : List UInt8} (ho : o.op = .call { callee := .builtin .len, args := #[x], argTypes := #[9] }) (hx : a.eval x = str l) : (execOp a.eval o).run Try.prog w = .ok (.value (.int .i64 (l.length : Int))) w := by
  have := ba_size l
  unfold execOp
  simp only [ho, resolve, invoke, builtin, Sem.run_bind, Sem.run_pure, Result.andThen_ok, List.map_toArray, List.map_cons, List.map_nil, hx, str]
  simp [Builtin.len_, run_underlying Try.underlying9, this, goInt, Sem.run_bind]
theorem wpL_slen {x : Operand} {l : List UInt8} (hw : Region.wanted o (yielded ops a.tmps) = true) (ho : o.op = .call { callee := .builtin .len, args := #[x], argTypes := #[9] }) (hx : a.eval x = str l)
    (h : wpList Try.prog ops Q r (a.put o.dst (.int .i64 (l.length : Int))) w) : wpList Try.prog ops Q (o :: r) a w := wpL_val hw (run_slen ho hx) h
/-- a slice's length -/
theorem run_len {x : Operand} {v : Value} {l : List UInt8} (hs : Sl w v l) (ho : o.op = .call { callee := .builtin .len, args := #[x], argTypes := #[26] }) (hx : a.eval x = v) : (execOp a.eval o).run Try.prog w = .ok (.value (.int .i64 (l.length : Int))) w := by
  obtain ⟨A, c, rfl, _⟩ := hs
  unfold execOp
  simp only [ho, resolve, invoke, builtin, Sem.run_bind, Sem.run_pure, Result.andThen_ok, List.map_toArray, List.map_cons, List.map_nil, hx]
  simp [Builtin.len_, run_underlying Try.underlying26, goInt, Sem.run_bind]
theorem wpL_len {x : Operand} {v : Value} {l : List UInt8} (hs : Sl w v l) (hw : Region.wanted o (yielded ops a.tmps) = true) (ho : o.op = .call { callee := .builtin .len, args := #[x], argTypes := #[26] }) (hx : a.eval x = v)
    (h : wpList Try.prog ops Q r (a.put o.dst (.int .i64 (l.length : Int))) w) : wpList Try.prog ops Q (o :: r) a w := wpL_val hw (run_len hs ho hx) h
theorem wpL_lenn {x : Operand} {v : Value} {l : List UInt8} {n : Nat} (hn : l.length = n) (hs : Sl w v l) (hw : Region.wanted o (yielded ops a.tmps) = true) (ho : o.op = .call { callee := .builtin .len, args := #[x], argTypes := #[26] }) (hx : a.eval x = v)
    (h : wpList Try.prog ops Q r (a.put o.dst (.int .i64 (n : Int))) w) : wpList Try.prog ops Q (o :: r) a w := wpL_val hw (hn ▸ run_len hs ho hx) h
/-- the head of a text -/
theorem run_shead {x y : Operand} {t : TypeId} {l : List UInt8} {n : Nat} (hn : n ≤ l.length) (ho : o.op = .slice t x none (some y) none) (ht : Try.prog.underlying t = some .string) (hx : a.eval x = str l) (hy : a.eval y = .int .i64 (n : Int)) : (execOp a.eval o).run Try.prog w = .ok (.value (str (l.take n))) w := by
  have h1 := ba_size l
  have h2 := ba_extract l 0 n
  unfold execOp
  simp only [ho, hx, hy, str, Option.map]
  simp [Instr.sliceAt, Instr.slice, Instr.sliceBounds, Instr.sliceBound, asIntOf, run_underlying ht, Sem.run_bind, h1, h2, hn]
theorem wpL_shead {x y : Operand} {t : TypeId} {l : List UInt8} {n : Nat} (hn : n ≤ l.length) (hw : Region.wanted o (yielded ops a.tmps) = true) (ho : o.op = .slice t x none (some y) none) (ht : Try.prog.underlying t = some .string) (hx : a.eval x = str l) (hy : a.eval y = .int .i64 (n : Int))
    (h : wpList Try.prog ops Q r (a.put o.dst (str (l.take n))) w) : wpList Try.prog ops Q (o :: r) a w := wpL_val hw (run_shead hn ho ht hx hy) h
end
/-- Block b holds the cells cs, and may be written (what bears a mark lies behind them). -/
def Blz (w : World) (b : Nat) (cs : Array Value) (t : TypeId) : Prop := ∃ fz : Nat × Nat, w.heap[b]? = some (.cells cs t fz) ∧ cs.size ≤ fz.1
theorem blz_lt {w : World} {b : Nat} {cs : Array Value} {t : TypeId} (h : Blz w b cs t) : b < w.heap.size := by obtain ⟨fz, h, _⟩ := h; exact lt_of_block h
theorem blz_off {F : List Nat} {w w' : World} {b : Nat} {cs : Array Value} {t : TypeId} (h : Blz w b cs t) (k : Off F w w') (hb : b ∉ F) : Blz w' b cs t := by
  have hl := blz_lt h
  obtain ⟨fz, h, h2⟩ := h
  exact ⟨fz, by rw [k.block b hl hb]; exact h, h2⟩
theorem blz_cell {w : World} {b : Nat} {cs : Array Value} {t : TypeId} (h : Blz w b cs t) : ∀ j, w.cell? ⟨b, j, none⟩ = cs[j]? := fun j => by
  obtain ⟨fz, h, _⟩ := h
  exact cell_of_row w b j cs t fz h
theorem blz_free {w : World} {b : Nat} {cs : Array Value} {t : TypeId} (h : Blz w b cs t) : ∀ j, j < cs.size → w.frozen? ⟨b, j, none⟩ = false := fun j hj => by
  obtain ⟨fz, h, h2⟩ := h
  simp [World.frozen?, h]
  omega
theorem blz_set {w : World} {b : Nat} {cs : Array Value} {t : TypeId} (h : Blz w b cs t) (j : Nat) (v : Value) : Blz (w.setCell ⟨b, j, none⟩ v) b (cs.setIfInBounds j v) t := by
  have hlt := blz_lt h
  obtain ⟨fz, h, h2⟩ := h
  refine ⟨fz, ?_, by simpa using h2⟩
  have h' : w.heap[b] = .cells cs t fz := by simpa [Array.getElem?_eq_getElem hlt] using h
  show (w.heap.modify b _)[b]? = _
  rw [Array.getElem?_eq_getElem (by simpa using hlt), Array.getElem_modify_self, h']
  rfl
theorem sl_blz {w : World} {g c : Nat} {l : List UInt8} {cs : Array Value} {t : TypeId} (h : Blz w g cs t) (hc : l.length ≤ c) (hm : c ≤ maxLen) (hl : cs.toList.take l.length = bs8 l) : Sl w (.slice (some ⟨g, 0, none⟩) l.length c) l := by
  refine ⟨some ⟨g, 0, none⟩, c, rfl, hc, hm, (fun h => by cases h), fun j x hj => ⟨_, rfl, ?_⟩⟩
  have hlt := (List.getElem?_eq_some_iff.1 hj).1
  have e := bs8_get hj
  rw [← hl, List.getElem?_take_of_lt hlt] at e
  rw [Addr.add_mid, blz_cell h, Nat.zero_add]
  simpa using e
/-- a text as bytes, in a new block -/
theorem run_bytes (w : World) (l : List UInt8) (hl : l.length ≤ 140737488355328) : ∃ W cs b c, (convert 9 26 (str l)).run Try.prog w = .ok (.slice (some ⟨b, 0, none⟩) l.length c) W ∧ w.heap.size ≤ b ∧ Off [] w W ∧ Blz W b cs 5 ∧ l.length ≤ c ∧ c ≤ maxLen ∧ cs.size = c ∧ cs.toList.take l.length = bs8 l := by
  have h := run_bytes_of_string (P := Try.prog) w 9 26 5 ⟨l.toArray⟩ Try.underlying9 Try.underlying26 Try.underlying5
  rw [ba_size] at h
  have hge := grownCap_ge w l.length 0 5
  have hs : (bytesRow ⟨l.toArray⟩ (grownCap w l.length 0 5)).size = grownCap w l.length 0 5 := by
    unfold bytesRow
    rw [ba_size]
    simp
    omega
  refine ⟨_, bytesRow ⟨l.toArray⟩ (grownCap w l.length 0 5), w.heap.size, grownCap w l.length 0 5, h, Nat.le_refl _, off_ext ((Below.refl _ _).drew.alloc (Nat.le_refl _) _), ⟨((bytesRow ⟨l.toArray⟩ (grownCap w l.length 0 5)).size, (bytesRow ⟨l.toArray⟩ (grownCap w l.length 0 5)).size + 1), ?_, Nat.le_refl _⟩, hge, grownCap_le_maxLen _ _ _ _ (by unfold maxLen; omega), hs, ?_⟩
  · show (w.heap.push _)[w.heap.size]? = _
    simp
  · unfold bytesRow bs8
    simp
section
variable {ops : Array Oper} {Q : Exit → Act → World → Prop} {w : World} {r : List Oper} {o : Oper} {a : Act} {E : Act → Prop}
theorem wpL_bytes {x : Operand} {l : List UInt8} (hl : l.length ≤ 140737488355328) (hw : Region.wanted o (yielded ops a.tmps) = true) (ho : o.op = .convert 9 26 x) (hx : a.eval x = str l)
    (h : ∀ b c cs W, w.heap.size ≤ b → Off [] w W → Blz W b cs 5 → l.length ≤ c → c ≤ maxLen → cs.size = c → cs.toList.take l.length = bs8 l → wpList Try.prog ops Q r (a.put o.dst (.slice (some ⟨b, 0, none⟩) l.length c)) W) : wpList Try.prog ops Q (o :: r) a w := by
  obtain ⟨W, cs, b, c, hrun, h1, h2, h3, h4, h5, h6, h7⟩ := run_bytes w l hl
  refine wpL_run hw (W := W) ?_ (h b c cs W h1 h2 h3 h4 h5 h6 h7)
  simp [execOp, ho, hx, Sem.run_bind, hrun]
/-- a store of a cell in such a block -/
theorem wpL_putz {ty t : TypeId} {x y : Operand} {b j : Nat} {cs : Array Value} {v : Value} (hv : v.cells = #[v] ∧ v.oneCell' = true) (hw : Region.wanted o (yielded ops a.tmps) = true) (ho : o.op = .store ty x y) (hx : a.eval x = .pointer (some ⟨b, j, none⟩)) (hy : a.eval y = v)
    (hB : Blz w b cs t) (hs : j < cs.size) (hi : (Try.prog.info? ty).map (·.size) = some 1)
    (h : ∀ W, Off [b] w W → Blz W b (cs.setIfInBounds j v) t → wpList Try.prog ops Q r (a.put o.dst undef) W) : wpList Try.prog ops Q (o :: r) a w := by
  unfold wpList; rw [if_pos hw]
  refine .inl ?_
  unfold Oper.wp
  have hc : (w.cell? ⟨b, j, none⟩).isSome = true := by rw [blz_cell hB, Array.getElem?_eq_getElem hs]; rfl
  have hf := blz_free hB j hs
  have := run_storeCells_cells (P := Try.prog) b j [v] 0 w (fun k hk => by
      have : k = 0 := by simpa using hk
      subst this; simpa using hc) (fun k hk => by
      have : k = 0 := by simpa using hk
      subst this; simpa using hf) (fun u hu => by rw [List.mem_singleton.1 hu]; exact hv.2)
  have hr : (execOp a.eval o).run Try.prog w = .ok .skip (w.setCell ⟨b, j, none⟩ v) := by
    cases hq : Try.prog.info? ty with
    | none => simp [hq] at hi
    | some i =>
      have hsz : i.size = 1 := by simpa [hq] using hi
      simp only [Nat.add_zero, World.setCells] at this
      simp [execOp, ho, hx, hy, Sem.run_bind, Instr.storeAt, Instr.sureAddr, storeVar, sizeOf, typeInfo, hq, hsz, hv.1, this]
  rw [hr]
  exact h _ ⟨rfl, rfl, rfl, by simp [World.setCell], fun k _ hk => Below.heap_setCell w ⟨b, j, none⟩ v k (by simpa using hk)⟩ (blz_set hB j v)
end
section
variable {ops : Array Oper} {Q : Exit → Act → World → Prop} {w : World} {r : List Oper} {o : Oper} {a : Act} {E : Act → Prop}
theorem u8_size : (Try.prog.info? 5).map (·.size) = some 1 := by kernel_rfl
theorem run_ixa {w : World} {x y : Operand} {k : IntKind} {ad : Addr} {n c j : Nat} (hj : j < n) (ho : o.op = .indexAddr 26 x y) (hx : a.eval x = .slice (some ad) n c) (hy : a.eval y = .int k (j : Int)) :
    (execOp a.eval o).run Try.prog w = .ok (.value (.pointer (some (ad.add j)))) w := by
  have h1 := u8_size
  cases hq : Try.prog.info? 5 with
  | none => simp [hq] at h1
  | some i =>
    have hs : i.size = 1 := by simpa [hq] using h1
    simp [execOp, ho, hx, hy, Instr.indexAt, asIntOf, run_underlying Try.underlying26, Sem.run_bind, sizeOf, typeInfo, hq, hs, hj]
/-- the place of a byte -/
theorem wpL_ixa {x y : Operand} {k : IntKind} {b off n c j : Nat} (hj : j < n) (hw : Region.wanted o (yielded ops a.tmps) = true) (ho : o.op = .indexAddr 26 x y) (hx : a.eval x = .slice (some ⟨b, off, none⟩) n c) (hy : a.eval y = .int k (j : Int))
    (h : wpList Try.prog ops Q r (a.put o.dst (.pointer (some ⟨b, off + j, none⟩))) w) : wpList Try.prog ops Q (o :: r) a w :=
  wpL_val hw (by rw [run_ixa hj ho hx hy, Addr.add_mid]) h
end
theorem sb_own {v : Value} {l : List UInt8} {x : Nat} (h : sb v l = some x) : v.ownBlock = some x := by
  unfold sb at h
  split at h
  · cases h
  · exact h
theorem ne_sb {v : Value} {l : List UInt8} {b : Nat} (h : v.ownBlock ≠ some b) : sb v l ≠ some b := fun e => h (sb_own e)
theorem dj_sb {O : Option Nat} {v : Value} {l : List UInt8} (h : ∀ x, O = some x → v.ownBlock ≠ some x) : ∀ x, O = some x → sb v l ≠ some x := fun x hx e => h x hx (sb_own e)
theorem freeze_heap (w : World) (g n : Nat) (cs : Array Value) (t : TypeId) (fz : Nat × Nat) (h : w.heap[g]? = some (.cells cs t fz)) : ∃ fz', (w.freeze ⟨g, n, none⟩ 1).heap[g]? = some (.cells cs t fz') := by
  have hlt := lt_of_block h
  have h' : w.heap[g] = .cells cs t fz := by simpa [Array.getElem?_eq_getElem hlt] using h
  unfold World.freeze
  rw [if_neg (by decide)]
  refine ⟨if fz.1 == fz.2 then (n, n + 1) else (min fz.1 n, max fz.2 (n + 1)), ?_⟩
  show (w.heap.modify g _)[g]? = _
  rw [Array.getElem?_eq_getElem (by simpa using hlt), Array.getElem_modify_self, h']
theorem run_same {w : World} {v : Value} {l : List UInt8} {g : Nat} (hs : Own w v l) (hg : v.ownBlock = some g) : ∃ W, (convert 26 26 v).run Try.prog w = .ok v W ∧ Off v.ownBlock.toList w W ∧ Sl W v l := by
  have hsl := hs.sl
  rcases hs.2 with ⟨rfl, _⟩ | ⟨g', cap, cur, rfl, _, hh, hc, hm, hsz, ht⟩
  · cases hg
  · obtain rfl : g' = g := Option.some.inj hg
    have hshape : w.shape? g' = some (5, cur.size) := by unfold World.shape?; rw [hh]
    obtain ⟨fz, hf⟩ := freeze_heap w g' cur.size cur _ _ hh
    refine ⟨w.freeze ⟨g', cur.size, none⟩ 1, ?_, ⟨rfl, rfl, rfl, ?_, ?_⟩, ?_⟩
    · simp [convert, run_underlying Try.underlying26, run_underlying Try.underlying5, Sem.run_bind, markStringish, hshape]
    · unfold World.freeze; rw [if_neg (by decide)]; simp
    · intro k hk hn
      have : k ≠ g' := fun e => hn (by rw [e]; simp [Value.ownBlock])
      unfold World.freeze
      rw [if_neg (by decide)]
      show (w.heap.modify g' _)[k]? = _
      rw [Array.getElem?_modify, if_neg (by omega)]
    · obtain ⟨A, c, e, h1, h2, h0, h3⟩ := hsl
      injection e with e1 e2 e3
      subst e1; subst e3
      refine ⟨some ⟨g', 0, none⟩, cap, rfl, h1, h2, h0, fun j x hj => ?_⟩
      obtain ⟨ad, e, hcell⟩ := h3 j x hj
      obtain rfl := Option.some.inj e
      refine ⟨_, rfl, ?_⟩
      rw [Addr.add_mid] at hcell ⊢
      rw [cell_of_row _ g' _ cur _ fz hf]
      rw [cell_of_row _ g' _ cur _ _ hh] at hcell
      exact hcell
theorem wpL_same {ops : Array Oper} {Q : Exit → Act → World → Prop} {w : World} {r : List Oper} {o : Oper} {a : Act} {x : Operand} {v : Value} {l : List UInt8} {g : Nat} (hs : Own w v l) (hg : v.ownBlock = some g) (hw : Region.wanted o (yielded ops a.tmps) = true) (ho : o.op = .convert 26 26 x) (hx : a.eval x = v)
    (h : ∀ W, Off v.ownBlock.toList w W → Sl W v l → wpList Try.prog ops Q r (a.put o.dst v) W) : wpList Try.prog ops Q (o :: r) a w := by
  obtain ⟨W, hrun, h1, h2⟩ := run_same hs hg
  exact wpL_run hw (W := W) (by simp [execOp, ho, hx, hrun, Sem.run_bind]) (h W h1 h2)
/-- what u reads lies where v's bytes lie -/
abbrev Sub (u : Value) (l' : List UInt8) (O : Option Nat) : Prop := ∀ x, sb u l' = some x → O = some x
theorem sub_ne {u : Value} {l' : List UInt8} {O : Option Nat} {b : Nat} (h : Sub u l' O) (k : O ≠ some b) : sb u l' ≠ some b := fun e => k (h b e)
theorem sub_dj {u : Value} {l' : List UInt8} {O R : Option Nat} (h : Sub u l' O) (k : ∀ x, R = some x → O ≠ some x) : ∀ x, R = some x → sb u l' ≠ some x := fun x hx e => k x hx (h x e)
theorem sub_trans {u v : Value} {l' l : List UInt8} {O : Option Nat} (h : Sub u l' (sb v l)) (k : Sub v l O) : Sub u l' O := fun x hx => k x (h x hx)
theorem sub_refl {v : Value} {l : List UInt8} : Sub v l (sb v l) := fun _ h => h
theorem run_head {w : World} {v : Value} {l : List UInt8} {n : Nat} (hs : Sl w v l) (hn : n ≤ l.length) : ∃ u, (∀ W, (Instr.sliceAt 26 v none (some (.int .i64 (n : Int))) none).run Try.prog W = .ok u W) ∧ Sl w u (l.take n) ∧ Sub u (l.take n) (sb v l) ∧ (0 < n → ∃ ad c, u = .slice (some ad) n c) := by
  obtain ⟨A, c, rfl, h1, h2, h0, h3⟩ := hs
  have hr : ∀ W, (Instr.sliceAt 26 (.slice A l.length c) none (some (.int .i64 (n : Int))) none).run Try.prog W = .ok (.slice (if c = 0 then A else A.map (·.add 0)) n c) W := by
    intro W
    have hnc : n ≤ c := by omega
    have h1 := u8_size
    cases hq : Try.prog.info? 5 with
    | none => simp [hq] at h1
    | some i => simp [Instr.sliceAt, Instr.slice, Instr.sliceBounds, Instr.sliceBound, asIntOf, run_underlying Try.underlying26, Sem.run_bind, sizeOf, typeInfo, hq, hnc]
  have hA : (if c = 0 then A else A.map (·.add 0)) = A := by
    have : ∀ a : Addr, a.add 0 = a := fun a => by unfold Addr.add; simp
    cases A <;> simp [this]
  rw [hA] at hr
  have hlt : (l.take n).length = n := by rw [List.length_take]; omega
  refine ⟨_, hr, ⟨A, c, by rw [hlt], by omega, h2, h0, fun j x hj => h3 j x ?_⟩, fun x hx => ?_, fun hp => ?_⟩
  · rw [List.getElem?_take] at hj
    split at hj
    · exact hj
    · cases hj
  · unfold sb at hx ⊢
    split at hx
    · cases hx
    · rename_i hne
      rw [if_neg (fun e => hne (by rw [e]; simp))]
      cases A <;> exact hx
  · have hl : 0 < l.length := by omega
    obtain ⟨ad, rfl, _⟩ := h3 0 l[0] (List.getElem?_eq_getElem hl)
    exact ⟨ad, c, rfl⟩
theorem run_tail {w : World} {v : Value} {l : List UInt8} {n : Nat} (hs : Sl w v l) (hn : n ≤ l.length) : ∃ u, (∀ W, (Instr.sliceAt 26 v (some (.int .i64 (n : Int))) none none).run Try.prog W = .ok u W) ∧ Sl w u (l.drop n) ∧ Sub u (l.drop n) (sb v l) := by
  obtain ⟨A, c, rfl, h1, h2, h0, h3⟩ := hs
  have hr : ∀ W, (Instr.sliceAt 26 (.slice A l.length c) (some (.int .i64 (n : Int))) none none).run Try.prog W = .ok (.slice (if c = n then A else A.map (·.add n)) (l.length - n) (c - n)) W := by
    intro W
    have hnc : n ≤ c := by omega
    have h1 := u8_size
    cases hq : Try.prog.info? 5 with
    | none => simp [hq] at h1
    | some i =>
      have hs : i.size = 1 := by simpa [hq] using h1
      simp [Instr.sliceAt, Instr.slice, Instr.sliceBounds, Instr.sliceBound, asIntOf, run_underlying Try.underlying26, Sem.run_bind, sizeOf, typeInfo, hq, hs, hn]
  refine ⟨_, hr, ⟨_, c - n, by rw [List.length_drop], by rw [List.length_drop]; omega, by omega, fun h => ?_, fun j x hj => ?_⟩, fun x hx => ?_⟩
  · split at h
    · omega
    · have : A = none := by simpa using h
      have := h0 this
      omega
  · rw [List.getElem?_drop] at hj
    obtain ⟨ad, rfl, hc⟩ := h3 _ _ hj
    have hl := (List.getElem?_eq_some_iff.1 hj).1
    rw [if_neg (by omega)]
    refine ⟨ad.add n, rfl, ?_⟩
    have : (ad.add n).add j = ad.add (n + j) := by
      unfold Addr.add
      by_cases hi : n = 0 <;> by_cases hj : j = 0 <;> simp [hi, hj, Nat.add_assoc]
    rw [this]; exact hc
  · unfold sb at hx ⊢
    split at hx
    · cases hx
    · rename_i hne
      rw [if_neg (fun e => hne (by rw [e]; simp))]
      have : c ≠ n := fun e => hne (List.drop_eq_nil_of_le (by omega))
      rw [if_neg this] at hx
      cases A with
      | none => cases hx
      | some ad => simpa [Value.ownBlock, addr_add_block] using hx
section
variable {ops : Array Oper} {Q : Exit → Act → World → Prop} {w : World} {r : List Oper} {o : Oper} {a : Act} {E : Act → Prop}
/-- b[:n] -/
theorem wpL_head {x y : Operand} {v : Value} {l : List UInt8} {n : Nat} (hs : Sl w v l) (hn : n ≤ l.length) (hw : Region.wanted o (yielded ops a.tmps) = true) (ho : o.op = .slice 26 x none (some y) none) (hx : a.eval x = v) (hy : a.eval y = .int .i64 (n : Int))
    (h : ∀ u, Sl w u (l.take n) → Sub u (l.take n) (sb v l) → (0 < n → ∃ ad c, u = .slice (some ad) n c) → wpList Try.prog ops Q r (a.put o.dst u) w) : wpList Try.prog ops Q (o :: r) a w := by
  obtain ⟨u, hr, h1, h2, h3⟩ := run_head hs hn
  exact wpL_val hw (by simp [execOp, ho, hx, hy, hr w, Sem.run_bind]) (h u h1 h2 h3)
/-- b[n:] -/
theorem wpL_tail {x y : Operand} {v : Value} {l : List UInt8} {n : Nat} (hs : Sl w v l) (hn : n ≤ l.length) (hw : Region.wanted o (yielded ops a.tmps) = true) (ho : o.op = .slice 26 x (some y) none none) (hx : a.eval x = v) (hy : a.eval y = .int .i64 (n : Int))
    (h : ∀ u, Sl w u (l.drop n) → Sub u (l.drop n) (sb v l) → wpList Try.prog ops Q r (a.put o.dst u) w) : wpList Try.prog ops Q (o :: r) a w := by
  obtain ⟨u, hr, h1, h2⟩ := run_tail hs hn
  exact wpL_val hw (by simp [execOp, ho, hx, hy, hr w, Sem.run_bind]) (h u h1 h2)
/-- the place of a byte, wherever it lies -/
theorem wpL_ixs {x y : Operand} {k : IntKind} {v : Value} {l : List UInt8} {j : Nat} {c : UInt8} (hs : Sl w v l) (hj : l[j]? = some c) (hw : Region.wanted o (yielded ops a.tmps) = true) (ho : o.op = .indexAddr 26 x y) (hx : a.eval x = v) (hy : a.eval y = .int k (j : Int))
    (h : ∀ ad, w.cell? ad = some (.int .u8 (c.toNat : Int)) → wpList Try.prog ops Q r (a.put o.dst (.pointer (some ad))) w) : wpList Try.prog ops Q (o :: r) a w := by
  obtain ⟨A, cc, rfl, h1, h2, h0, h3⟩ := hs
  obtain ⟨ad, rfl, hc⟩ := h3 j c hj
  exact wpL_val hw (run_ixa (List.getElem?_eq_some_iff.1 hj).1 ho hx hy) (h _ hc)
/-- bytes copied over a whole array -/
theorem wpL_copy {x y : Operand} {v : Value} {l : List UInt8} {g : Nat} {cur : Array Value} {t : TypeId} {n c : Nat} (hs : Sl w v l) (hB : Blk w g cur t) (hcur : cur.size = l.length) (hn : n = l.length) (hp : 0 < l.length) (hw : Region.wanted o (yielded ops a.tmps) = true)
    (ho : o.op = .call { callee := .builtin .copy, args := #[x, y], argTypes := #[26, 26] }) (hx : a.eval x = .slice (some ⟨g, 0, none⟩) n c) (hy : a.eval y = v)
    (h : ∀ W, Off [g] w W → Blk W g (bs8 l).toArray t → wpList Try.prog ops Q r (a.put o.dst (goInt l.length)) W) : wpList Try.prog ops Q (o :: r) a w := by
  subst hn
  obtain ⟨A, cc, rfl, h1, h2, h0, h3⟩ := hs
  obtain ⟨ad, rfl, _⟩ := h3 0 l[0] (List.getElem?_eq_getElem hp)
  have hrun := run_copy_row (P := Try.prog) w 26 26 o.type 5 g 0 l.length c ad l.length cc cur t (bs8 l) Try.underlying26 u8_size hB (by simp [bs8_length]) (fun j u hj => by
    simp only [bs8, List.getElem?_map, Option.map_eq_some_iff] at hj
    obtain ⟨z, hz, rfl⟩ := hj
    obtain ⟨ad', e, hc⟩ := h3 j z hz
    obtain rfl := Option.some.inj e
    exact hc) (by rw [bs8_length]; omega) (bs8_one l)
  have e : (cur.toList.take 0 ++ bs8 l ++ cur.toList.drop (0 + (bs8 l).length)) = bs8 l := by
    rw [List.drop_eq_nil_of_le (by rw [bs8_length, Array.length_toList]; omega)]; simp
  rw [e] at hrun
  have h4 : Blk (w.setRow g (bs8 l).toArray) g (bs8 l).toArray t := blk_setRow hB _
  refine wpL_run hw (v := goInt l.length) (W := w.setRow g (bs8 l).toArray) ?_ (h _ ⟨rfl, rfl, rfl, by simp, fun k _ hk => setRow_other w g k _ (by simpa using hk)⟩ h4)
  unfold execOp
  simp only [ho, resolve, invoke, builtin, Sem.run_bind, Sem.run_pure, Result.andThen_ok, List.map_toArray, List.map_cons, List.map_nil, hx, hy, hrun, bs8_length]
end
theorem sl_form {w : World} {v : Value} {l : List UInt8} (hs : Sl w v l) (hp : 0 < l.length) : ∃ ad c, v = .slice (some ad) l.length c ∧ ∀ j x, l[j]? = some x → w.cell? (ad.add j) = some (.int .u8 (x.toNat : Int)) := by
  obtain ⟨A, c, rfl, h1, h2, h0, h3⟩ := hs
  obtain ⟨ad, rfl, _⟩ := h3 0 l[0] (List.getElem?_eq_getElem hp)
  refine ⟨ad, c, rfl, fun j x hj => ?_⟩
  obtain ⟨ad', e, hc⟩ := h3 j x hj
  obtain rfl := Option.some.inj e
  exact hc
/-- (Y << 8) | z -/
theorem or8 (Y z : Nat) (hz : z < 256) : bits .or .i64 (IntKind.wrap .i64 ((Y * 256 : Nat) : Int)) (z : Int) = IntKind.wrap .i64 ((Y * 256 + z : Nat) : Int) := by
  have e1 : (BitVec.ofInt 64 (IntKind.wrap .i64 ((Y * 256 : Nat) : Int))).toNat = Y * 256 % 2 ^ 64 := by
    rw [BitVec.toNat_ofInt, IntKind.wrap_i64]; omega
  have e2 : (BitVec.ofInt 64 (z : Int)).toNat = z := by
    rw [BitVec.toNat_ofInt]; omega
  have key : (BitVec.ofInt 64 (IntKind.wrap .i64 ((Y * 256 : Nat) : Int)) ||| BitVec.ofInt 64 (z : Int)).toNat = (Y * 256 + z) % 2 ^ 64 := by
    rw [BitVec.toNat_or, e1, e2]
    have h := Nat.two_pow_add_eq_or_of_lt (i := 8) hz (Y % 2 ^ 56)
    have h2 : Y * 256 % 2 ^ 64 = 2 ^ 8 * (Y % 2 ^ 56) := by omega
    rw [h2, ← h]
    omega
  show IntKind.i64.wrap ((BitVec.ofInt 64 (IntKind.wrap .i64 ((Y * 256 : Nat) : Int)) ||| BitVec.ofInt 64 (z : Int)).toNat : Nat) = _
  rw [key, IntKind.wrap_i64, IntKind.wrap_i64]
  omega
theorem shl8 (Y : Nat) : IntKind.wrap .i64 (IntKind.wrap .i64 (Y : Int) * 256) = IntKind.wrap .i64 ((Y * 256 : Nat) : Int) := by
  rw [IntKind.wrap_i64, IntKind.wrap_i64, IntKind.wrap_i64]; omega
theorem made_zeros : ∀ n, (madeCells #[.int .u8 0] (n * 1)).toList = bs8 (List.replicate n 0) := by
  intro n
  rw [Nat.mul_one]
  apply List.ext_getElem?
  intro i
  by_cases hi : i < n
  · simp [madeCells, bs8, hi, Nat.mod_one]
  · simp [madeCells, bs8, hi]
/-- make([]byte, n) -/
theorem wpL_make {ops : Array Oper} {Q : Exit → Act → World → Prop} {w : World} {r : List Oper} {o : Oper} {a : Act} {x y : Operand} {n : Nat} (hn : n ≤ 140737488355328) (hw : Region.wanted o (yielded ops a.tmps) = true) (ho : o.op = .makeSlice 26 x y) (hx : a.eval x = .int .i64 (n : Int)) (hy : a.eval y = .int .i64 (n : Int))
    (h : ∀ b W, w.heap.size ≤ b → Off [] w W → Own W (.slice (some ⟨b, 0, none⟩) n n) (List.replicate n 0) → wpList Try.prog ops Q r (a.put o.dst (.slice (some ⟨b, 0, none⟩) n n)) W) : wpList Try.prog ops Q (o :: r) a w := by
  obtain ⟨i, hi, hz, hsz, hby⟩ := info_parts bytes_info
  obtain ⟨W, hrun, h1, h2⟩ := run_make_full (P := Try.prog) w 0 26 5 i (.int .u8 0) 1 Try.underlying26 hi hz hsz .i64 .i64 n (by rw [hby]; omega) (by unfold maxLen; omega) (Nat.zero_le _)
  refine wpL_run hw (W := W) (by simp [execOp, ho, hx, hy, hrun, Sem.run_bind]) (h _ W (Nat.le_refl _) (off_grown h2) ?_)
  unfold Own
  rw [List.length_replicate, ← made_zeros n]
  exact h1
theorem cell_ext {w W : World} {ad : Addr} {v : Value} (h : w.cell? ad = some v) (hW : Ext w W) : W.cell? ad = some v := by
  rw [World.cell?_of_block (w := w) (hW.block _ (cell_lt h))]; exact h
theorem sl_at {w : World} {ad : Addr} {n c j : Nat} {l : List UInt8} {x : UInt8} (h : Sl w (.slice (some ad) n c) l) (hj : l[j]? = some x) : w.cell? (ad.add j) = some (.int .u8 (x.toNat : Int)) := by
  obtain ⟨A, cc, e, h1, h2, h0, h3⟩ := h
  injection e with e1
  subst e1
  obtain ⟨ad', e, hc⟩ := h3 j x hj
  obtain rfl := Option.some.inj e
  exact hc
section
variable {P : Program} {ops : Array Oper} {w : World} {E : Act → Prop} {l : List Oper} {o : Oper} {a : Act}
theorem wpX_at {ad : Addr} {v : Value} {ty : TypeId} {x : Operand} (hw : Region.wanted o (yielded ops a.tmps) = true) (ho : o.op = .load ty x) (hx : a.eval x = .pointer (some ad)) (hc : ∀ W, Ext w W → W.cell? ad = some v)
    (hk : (P.underlying ty).map TypeDesc.isRow = some false) (h : wpX P ops w E l (a.put o.dst v)) : wpX P ops w E (o :: l) a := by
  refine wpX_val hw (fun W hW => ?_) h
  have hc' := hc W hW
  clear hc
  cases hu : P.underlying ty with
  | none => simp [hu] at hk
  | some d =>
    have hd : d.isRow = false := by simpa [hu] using hk
    unfold execOp
    simp only [ho, hx]
    cases d <;> simp_all [Instr.loadAt, Instr.sureAddr, Sem.run_bind, Sem.run_pure, Result.andThen_ok, run_underlying hu, TypeDesc.isRow]
    all_goals simp [loadVar, isAgg, Sem.run_bind, Sem.run_pure, Result.andThen_ok, run_underlying hu, TypeDesc.isRow, hc']
end
/-- byte j of a list, nought beyond it -/
def bt (l : List UInt8) (j : Nat) : Int := ((l.getD j 0).toNat : Int)
theorem getD_some {l : List UInt8} {j : Nat} (h : j < l.length) : l[j]? = some (l.getD j 0) := by
  rw [List.getD_eq_getElem?_getD, List.getElem?_eq_getElem h]; rfl
theorem bt_ok (l : List UInt8) (j : Nat) : 0 ≤ bt l j ∧ bt l j ≤ 255 := by
  have := (l.getD j 0).toNat_lt
  unfold bt; omega
end Go.Proofs.Yteniajdmmffamaa
