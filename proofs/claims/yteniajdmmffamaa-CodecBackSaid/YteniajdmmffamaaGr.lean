/- Rows of elements of any one type: their cells, appending to them, reading them. No conditions. -/
import Derived.Test.YteniajdmmffamaaPl
import Derived.Great.BuildSlice
namespace Go.Proofs.Yteniajdmmffamaa
set_option linter.unusedSimpArgs false
set_option linter.unusedVariables false
open Go.RowKit
/-- The value v is a row of the call's own, of the elements es (their cells), that may be appended to. -/
def Row (t : TypeId) (k : Nat) (w : World) (v : Value) (es : List (List Value)) : Prop := w.ownsRow 0 t k v es.length es.flatten ∧ ∀ e ∈ es, e.length = k
section
variable {t : TypeId} {k : Nat} {w : World} {v : Value} {es : List (List Value)}
theorem Row.off {F : List Nat} {w' : World} (h : Row t k w v es) (q : Off F w w') (hF : ∀ b ∈ F, v.ownBlock ≠ some b) : Row t k w' v es := by
  refine ⟨⟨h.1.1, h.1.2.imp id ?_⟩, h.2⟩
  rintro ⟨g, cap, cur, rfl, hb, hh, r⟩
  exact ⟨g, cap, cur, rfl, hb, by rw [q.block g (lt_of_block hh) (fun hx => hF g hx rfl)]; exact hh, r⟩
theorem Row.lt (h : Row t k w v es) : ∀ g, v.ownBlock = some g → g < w.heap.size := by
  intro g hg
  rcases h.1.2 with ⟨rfl, _⟩ | ⟨g', cap, cur, rfl, _, hh, _⟩
  · cases hg
  · obtain rfl : g' = g := Option.some.inj hg
    exact lt_of_block hh
theorem row_nil (t : TypeId) (k : Nat) (w : World) : Row t k w (.slice none 0 0) [] := ⟨⟨by simp, .inl ⟨rfl, rfl⟩⟩, by simp⟩
theorem Row.ne_blk (h : Row t k w v es) {b : Nat} {cs : Array Value} {t' : TypeId} (hb : Blk w b cs t') (ht : t' ≠ t) : v.ownBlock ≠ some b := by
  intro e
  rcases h.1.2 with ⟨rfl, _⟩ | ⟨g', cap, cur, rfl, _, hh, _⟩
  · cases e
  · obtain rfl : g' = b := Option.some.inj e
    unfold Blk at hb
    rw [hh] at hb
    injection hb with hb
    injection hb with _ h2
    exact ht h2.symm
/-- a row of bytes is no row of another type -/
theorem Row.ne_own (h : Row t k w v es) {u : Value} {l : List UInt8} (hu : Own w u l) (ht : t ≠ 5) : ∀ x, v.ownBlock = some x → u.ownBlock ≠ some x := by
  intro x e e2
  rcases h.1.2 with ⟨rfl, _⟩ | ⟨g', cap, cur, rfl, _, hh, _⟩
  · cases e
  · obtain rfl : g' = x := Option.some.inj e
    rcases hu.2 with ⟨rfl, _⟩ | ⟨g2, cap2, cur2, rfl, _, hh2, _⟩
    · cases e2
    · obtain rfl : g2 = g' := Option.some.inj e2
      rw [hh] at hh2
      injection hh2 with hb
      injection hb with _ h2
      exact ht h2
theorem Row.len (h : Row t k w v es) : ∃ A c, v = .slice A es.length c ∧ es.length ≤ c := by
  rcases h.1.2 with ⟨rfl, hn⟩ | ⟨g, cap, cur, rfl, _, hh, hc, _⟩
  · exact ⟨none, 0, by rw [hn], by omega⟩
  · exact ⟨_, _, rfl, hc⟩
theorem Row.cells (h : Row t k w v es) : v.cells = #[v] ∧ v.oneCell' = true := by
  obtain ⟨A, c, rfl, _⟩ := h.len
  exact ⟨rfl, rfl⟩
theorem flat_at {k : Nat} : ∀ (es : List (List Value)) (j i : Nat) (e : List Value), (∀ e ∈ es, e.length = k) → es[j]? = some e → i < k → es.flatten[j * k + i]? = e[i]?
  | [], _, _, _, _, h, _ => by simp at h
  | x :: es, 0, i, e, hl, h, hi => by
    have hx := hl x (by simp)
    have : x = e := by simpa using h
    subst this
    rw [List.flatten_cons, Nat.zero_mul, Nat.zero_add, List.getElem?_append_left (by omega)]
  | x :: es, j + 1, i, e, hl, h, hi => by
    have hx := hl x (by simp)
    have := flat_at es j i e (fun e he => hl e (by simp [he])) (by simpa using h) hi
    rw [List.flatten_cons, List.getElem?_append_right (by rw [hx, Nat.add_mul]; omega), hx, show (j + 1) * k + i - k = j * k + i by rw [Nat.add_mul]; omega]
    exact this
/-- cell i of element j -/
theorem Row.at (h : Row t k w v es) {j : Nat} {e : List Value} (hj : es[j]? = some e) : ∃ g c, v = .slice (some ⟨g, 0, none⟩) es.length c ∧ ∀ i x, e[i]? = some x → w.cell? ⟨g, j * k + i, none⟩ = some x := by
  have hlt := (List.getElem?_eq_some_iff.1 hj).1
  rcases h.1.2 with ⟨rfl, hn⟩ | ⟨g, cap, cur, rfl, _, hh, hc, hm, hs, ht⟩
  · omega
  · refine ⟨g, cap, rfl, fun i x hx => ?_⟩
    have he : e.length = k := h.2 e (List.mem_of_getElem? hj)
    have hi : i < k := by have := (List.getElem?_eq_some_iff.1 hx).1; omega
    have hf := flat_at es j i e h.2 hj hi
    have hlen : j * k + i < es.length * k := by
      have : (j + 1) * k ≤ es.length * k := Nat.mul_le_mul_right k hlt
      rw [Nat.add_mul] at this; omega
    rw [cell_of_row w g _ cur _ _ hh]
    rw [← ht, List.getElem?_take_of_lt hlen] at hf
    rw [← hx, ← hf]; simp
theorem row_blk {g : Nat} {cs : Array Value} (h : Blk w g cs t) (hc : cs.toList = es.flatten) (hl : ∀ e ∈ es, e.length = k) (hm : es.length ≤ maxLen) : Row t k w (.slice (some ⟨g, 0, none⟩) es.length es.length) es := by
  have hlen : es.flatten.length = es.length * k := by
    clear hc hm
    induction es with
    | nil => simp
    | cons x r ih => rw [List.flatten_cons, List.length_append, hl x (by simp), ih (fun e he => hl e (by simp [he])), List.length_cons, Nat.add_mul]; omega
  have hs : cs.size = es.length * k := by rw [← Array.length_toList, hc, hlen]
  exact ⟨⟨hlen, .inr ⟨g, es.length, cs, rfl, Nat.zero_le _, h, Nat.le_refl _, hm, hs, by rw [hc, List.take_of_length_le (by omega)]⟩⟩, hl⟩
end
theorem vs0 : ∀ v ∈ ([] : List Value), v.cells = #[v] := by simp
theorem vsc {x : Value} {r : List Value} (h : x.cells = #[x]) (k : ∀ v ∈ r, v.cells = #[v]) : ∀ v ∈ x :: r, v.cells = #[v] := by
  intro v hv
  rcases List.mem_cons.1 hv with rfl | hv
  · exact h
  · exact k v hv
theorem all1 {x : Value} (h : x.oneCell' = true) : (#[x] : Array Value).all (·.oneCell') = true := by simp [h]
theorem info_cells {P : Program} {t : TypeId} {k b : Nat} (h : (P.info? t).map (fun i => (i.zero.map (·.cells.size), i.size, i.bytes)) = some (some k, k, b)) : ∃ i z, P.info? t = some i ∧ i.zero = some z ∧ i.size = k ∧ i.bytes = b ∧ z.cells.size = k := by
  cases hi : P.info? t with
  | none => simp [hi] at h
  | some i =>
    simp only [hi, Option.map_some, Option.some.injEq, Prod.mk.injEq] at h
    cases hz : i.zero with
    | none => simp [hz] at h
    | some z => exact ⟨i, z, rfl, hz, h.2.1, h.2.2, by simpa [hz] using h.1⟩
section
variable {P : Program} {ops : Array Oper} {Q : Exit → Act → World → Prop} {w : World} {l : List Oper} {o : Oper} {a : Act} {tS t t2 : TypeId} {k bytes : Nat} {s x : Operand} {v u : Value} {es : List (List Value)}
/-- one element is appended, from a block of its own -/
theorem wpL_append1 {g c : Nat} {cs : Array Value} (hw : Region.wanted o (yielded ops a.tmps) = true) (ho : o.op = .call { callee := .builtin .append, args := #[s, x], argTypes := #[tS, tS] }) (hs : a.eval s = v) (hx : a.eval x = .slice (some ⟨g, 0, none⟩) 1 c)
    (hown : Row t k w v es) (hB : Blk w g cs t2) (hk : cs.size = k) (h1 : cs.all (·.oneCell') = true) (hk0 : 0 < k) (ht : P.underlying tS = some (.slice t)) (hi : (P.info? t).map (fun i => (i.zero.map (·.cells.size), i.size, i.bytes)) = some (some k, k, bytes))
    (hlen : (es.length + 1) * bytes ≤ 140737488355328) (hl2 : es.length + 1 ≤ maxLen)
    (h : ∀ v' W, Row t k W v' (es ++ [cs.toList]) → Off v.ownBlock.toList w W → Of v'.ownBlock v.ownBlock w.heap.size → wpList P ops Q l (a.put o.dst v') W) : wpList P ops Q (o :: l) a w := by
  obtain ⟨i, z, hi, hz, hsz, hby, hzs⟩ := info_cells hi
  obtain ⟨v', W, hrun, h2, h3, h4, h5⟩ := run_append_own_at (P := P) w 0 tS o.type t i z k bytes ht hi hz hsz hby hzs hk0 v es.length es.flatten hown.1 ⟨g, 0, none⟩ 1 c cs.toList (by simp [hk])
    (fun j u hu => by rw [Addr.add_mid, blk_cell hB, Nat.zero_add]; simpa using hu) (fun u hu => Array.all_eq_true_iff_forall_mem.1 h1 u (by simpa using hu)) hl2 hlen (Nat.zero_le _)
  refine wpL_run hw (v := v') (W := W) ?_ (h v' W ⟨?_, ?_⟩ (off_grown h3) (of_or h5))
  · unfold execOp
    simp only [ho, resolve, invoke, builtin, Sem.run_bind, Sem.run_pure, Result.andThen_ok, List.map_toArray, List.map_cons, List.map_nil, hs, hx, hrun]
  · rw [List.length_append, List.flatten_append]; simpa using h2
  · intro e he
    rcases List.mem_append.1 he with he | he
    · exact hown.2 e he
    · rw [List.mem_singleton.1 he]; simpa using hk
/-- a row's length -/
theorem run_lenR {W : World} (hs : Row t k w v es) (ho : o.op = .call { callee := .builtin .len, args := #[x], argTypes := #[tS] }) (hx : a.eval x = v) (ht : P.underlying tS = some (.slice t)) : (execOp a.eval o).run P W = .ok (.value (.int .i64 (es.length : Int))) W := by
  obtain ⟨A, c, rfl, _⟩ := hs.len
  unfold execOp
  simp only [ho, resolve, invoke, builtin, Sem.run_bind, Sem.run_pure, Result.andThen_ok, List.map_toArray, List.map_cons, List.map_nil, hx]
  simp [Builtin.len_, run_underlying ht, goInt, Sem.run_bind]
/-- the place of element j -/
theorem run_ixR {W : World} {y : Operand} {kk : IntKind} {ad : Addr} {n c j : Nat} (hj : j < n) (ho : o.op = .indexAddr tS x y) (hx : a.eval x = .slice (some ad) n c) (hy : a.eval y = .int kk (j : Int)) (ht : P.underlying tS = some (.slice t)) (hi : (P.info? t).map (·.size) = some k) :
    (execOp a.eval o).run P W = .ok (.value (.pointer (some (ad.add (j * k))))) W := by
  cases hq : P.info? t with
  | none => simp [hq] at hi
  | some i =>
    have hs : i.size = k := by simpa [hq] using hi
    simp [execOp, ho, hx, hy, Instr.indexAt, asIntOf, run_underlying ht, Sem.run_bind, sizeOf, typeInfo, hq, hs, hj]
/-- a slice literal of values of one cell each -/
theorem run_bsv {e : TypeId} {len : Nat} {parts : Array (Nat × Operand)} (vs : List Value) (ho : o.op = .buildSlice tS len parts) (hp : parts.toList.map (fun p => (p.1, a.eval p.2)) = (vs.zipIdx 0).map fun x => (x.2, x.1)) (hv : ∀ v ∈ vs, v.cells = #[v])
    (hu : P.underlying tS = some (.slice e)) (hsz : (P.info? e).map (·.size) = some 1) (hz : ((P.info? e).bind (·.zero)).isSome = true) (hlen : len = vs.length) (hpos : 0 < len) (hsmall : len ≤ 2 ^ 24) :
    (execOp a.eval o).run P w = .ok (.value (.slice (some ⟨w.heap.size, 0, none⟩) len len)) (w.alloc (.cells vs.toArray e)) := by
  cases hie : P.info? e with
  | none => simp [hie] at hsz
  | some ie =>
    simp only [hie, Option.map_some, Option.some.injEq, Option.bind_some] at hsz hz
    obtain ⟨z, hzz⟩ := Option.isSome_iff_exists.1 hz
    unfold execOp
    simp only [ho, Sem.run_bind]
    rw [run_buildSlice w tS e len _ vs.toArray ie z hu hie hzz (by rw [hsz]; omega) (by rw [hsz]; omega) (by rw [Array.toList_map, hsz]; refine Eq.trans (congrArg (Instr.fill _ _) hp) ?_; exact Great.fill_flat _ _ hv (by simp [hlen]))]
    rfl
/-- a slice literal of one value of several cells -/
theorem run_bsA {e : TypeId} {parts : Array (Nat × Operand)} {x0 : Operand} {cs : Array Value} (ho : o.op = .buildSlice tS 1 parts) (hp : parts.toList = [(0, x0)]) (hx : a.eval x0 = .agg cs)
    (hu : P.underlying tS = some (.slice e)) (hsz : (P.info? e).map (·.size) = some cs.size) (hz : (P.info? e).map (fun i => i.zero.map (·.cells.size)) = some (some cs.size)) (hpos : 0 < cs.size) (hsmall : cs.size ≤ 2 ^ 24) :
    (execOp a.eval o).run P w = .ok (.value (.slice (some ⟨w.heap.size, 0, none⟩) 1 1)) (w.alloc (.cells cs e)) := by
  cases hie : P.info? e with
  | none => simp [hie] at hsz
  | some ie =>
    simp only [hie, Option.map_some, Option.some.injEq] at hsz hz
    cases hzz : ie.zero with
    | none => simp [hzz] at hz
    | some z =>
      obtain ⟨r, hr, hrs, hk⟩ := Great.fill_dense (s := cs.size) hpos [.agg cs] 0 ((Array.range (1 * cs.size)).map (z.cells[· % z.cells.size]!)) (fun v hv => by rw [List.mem_singleton.1 hv]; rfl) (by simp)
      have hrc : r = cs := by
        apply Array.ext_getElem?
        intro k
        rw [hk k]
        simp only [Nat.zero_mul, Nat.zero_le, true_and, List.length_cons, List.length_nil, Nat.zero_add, Nat.one_mul]
        by_cases hlt : k < cs.size
        · rw [if_pos hlt, Nat.div_eq_of_lt hlt, Nat.mod_eq_of_lt hlt]
          rfl
        · rw [if_neg hlt, Array.getElem?_eq_none (by simpa using hlt), Array.getElem?_eq_none (by simpa using hlt)]
      subst hrc
      unfold execOp
      simp only [ho, Sem.run_bind]
      rw [run_buildSlice w tS e 1 _ _ ie z hu hie hzz (by rw [hsz]; omega) (by rw [hsz]; omega) (by rw [Array.toList_map, hp, hsz]; simp only [List.map_cons, List.map_nil, hx]; exact hr)]
      rfl
end
end Go.Proofs.Yteniajdmmffamaa
