/- Steps of a walk in the order of the text, for code that writes memory: what each operation does to the blocks. No conditions. -/
import Derived.Test.YteniajdmmffamaaChecked
import Derived.Test.YteniajdmmffamaaReg3
import Derived.Maps.AppendAt
import Derived.Deep.MidRow
import Derived.Deep.AppendLies
import Derived.Deep.Draws
namespace Go.Proofs.Yteniajdmmffamaa
set_option linter.unusedSimpArgs false
set_option linter.unusedVariables false
open Go.RowKit

/-- But for the blocks F all that was there is as it was. -/
structure Off (F : List Nat) (w w' : World) : Prop where
  os : w'.os = w.os
  tape : w'.tape = w.tape
  output : w'.output = w.output
  size : w.heap.size ≤ w'.heap.size
  block : ∀ k, k < w.heap.size → k ∉ F → w'.heap[k]? = w.heap[k]?
theorem Off.refl (F : List Nat) (w : World) : Off F w w := ⟨rfl, rfl, rfl, Nat.le_refl _, fun _ _ _ => rfl⟩
theorem Off.trans {F G H : List Nat} {a b c : World} (h : Off F a b) (k : Off G b c) (hF : ∀ x ∈ F, x ∈ H) (hG : ∀ x ∈ G, x < a.heap.size → x ∈ H) : Off H a c :=
  ⟨k.os.trans h.os, k.tape.trans h.tape, k.output.trans h.output, Nat.le_trans h.size k.size, fun i hi hn =>
    (k.block i (Nat.lt_of_lt_of_le hi h.size) (fun hx => hn (hG i hx hi))).trans (h.block i hi (fun hx => hn (hF i hx)))⟩
theorem Off.mono {F H : List Nat} {a b : World} (h : Off F a b) (hF : ∀ x ∈ F, x < a.heap.size → x ∈ H) : Off H a b :=
  ⟨h.os, h.tape, h.output, h.size, fun i hi hn => h.block i hi fun hx => hn (hF i hx hi)⟩
theorem off_ext {w w' : World} (h : Ext w w') : Off [] w w' := ⟨h.os, h.tape, h.output, h.size, fun i hi _ => h.block i hi⟩
theorem Off.ext {w w' : World} (h : Off [] w w') : Ext w w' := ⟨h.os, h.tape, h.output, h.size, fun i hi => h.block i hi (by simp)⟩
theorem wname {F : List Nat} {w W : World} (_ : Off F w W) : ∃ X, X = W := ⟨W, rfl⟩
theorem off_alloc (w : World) (o : Obj) : Off [] w (w.alloc o) := off_ext ((Below.refl _ _).alloc (Nat.le_refl _) _)
theorem off_grown {w w' : World} {row : Option Nat} (h : w.grownBy w' row) : Off row.toList w w' :=
  ⟨h.os, h.tape, h.output, h.size, fun i hi hn => h.block i hi (fun e => hn (by rw [← e]; simp))⟩
theorem Off.below {F : List Nat} {B : Nat} {a w w' : World} (h : Below B a w) (k : Off F w w') (hB : B ≤ w.heap.size) (hF : ∀ x ∈ F, B ≤ x) : Below B a w' :=
  h.trans ⟨k.os, k.tape, k.output, k.size, fun i hi => k.block i (by omega) (fun hx => by have := hF i hx; omega)⟩
theorem blk_off {F : List Nat} {w w' : World} {b : Nat} {cs : Array Value} {t : TypeId} (h : Blk w b cs t) (k : Off F w w') (hb : b ∉ F) : Blk w' b cs t := by
  unfold Blk at *; rw [k.block b (blk_lt h) hb]; exact h
theorem rd_off {F : List Nat} {w w' : World} {b : Nat} {cs : Array Value} (h : Rd w b cs) (k : Off F w w') (hb : b ∉ F) : Rd w' b cs :=
  ⟨fun j v hv => (World.cell?_of_block (w := w) (k.block b h.2 hb)).trans (h.1 j v hv), Nat.lt_of_lt_of_le h.2 k.size⟩
theorem nm0 {b : Nat} : b ∉ ([] : List Nat) := by simp
theorem nm1 {b p : Nat} (h : b ≠ p) : b ∉ [p] := by simp [h]
theorem nmo {b : Nat} {O : Option Nat} (h : O ≠ some b) : b ∉ O.toList := by
  cases O with
  | none => simp
  | some g => simp; exact fun e => h (by rw [e])
theorem nmc {b p : Nat} {F : List Nat} (h : b ≠ p) (k : b ∉ F) : b ∉ p :: F := by simp [h, k]
theorem f0 {O : Option Nat} : ∀ x ∈ ([] : List Nat), O ≠ some x := by simp
theorem f1 {O : Option Nat} {b : Nat} (h : O ≠ some b) : ∀ x ∈ [b], O ≠ some x := by simpa using h
theorem fo {O R : Option Nat} (h : ∀ x, O = some x → R ≠ some x) : ∀ x ∈ O.toList, R ≠ some x := fun x hx => h x (by
  cases O with
  | none => simp at hx
  | some g => simp at hx; rw [hx])
theorem fc {O : Option Nat} {b : Nat} {F : List Nat} (h : O ≠ some b) (k : ∀ x ∈ F, O ≠ some x) : ∀ x ∈ b :: F, O ≠ some x := by
  intro x hx
  rcases List.mem_cons.1 hx with rfl | hx
  · exact h
  · exact k x hx
/-- in what may turn, as far as it is old -/
abbrev Fr (O : Option Nat) (n : Nat) (F : List Nat) : Prop := ∀ x, O = some x → x < n → x ∈ F
abbrev Fb (b n : Nat) (F : List Nat) : Prop := b < n → b ∈ F
theorem i0 {n : Nat} {F : List Nat} : ∀ x ∈ ([] : List Nat), x < n → x ∈ F := by simp
theorem i1 {n b : Nat} {F : List Nat} (h : Fb b n F) : ∀ x ∈ [b], x < n → x ∈ F := fun x hx => by rw [List.mem_singleton.1 hx]; exact h
theorem io {n : Nat} {O : Option Nat} {F : List Nat} (h : Fr O n F) : ∀ x ∈ O.toList, x < n → x ∈ F := fun x hx => h x (by
  cases O with
  | none => simp at hx
  | some g => simp at hx; rw [hx])
theorem ic {n b : Nat} {F G : List Nat} (h : Fb b n F) (k : ∀ x ∈ G, x < n → x ∈ F) : ∀ x ∈ b :: G, x < n → x ∈ F := by
  intro x hx
  rcases List.mem_cons.1 hx with rfl | hx
  · exact h
  · exact k x hx
theorem Off.step {F G : List Nat} {a b c : World} (h : Off F a b) (k : Off G b c) (hG : ∀ x ∈ G, x < a.heap.size → x ∈ F) : Off F a c := h.trans k (fun _ hx => hx) hG
/-- of R's block nothing is old but what was O's -/
abbrev Of (R O : Option Nat) (n : Nat) : Prop := Fr R n O.toList
theorem of_or {O R : Option Nat} {n : Nat} (h : R = O ∨ R = some n) : Of R O n := by
  intro x hx hlt
  rcases h with h | h
  · rw [← h, hx]; simp
  · rw [hx] at h; have := Option.some.inj h; omega
theorem of_mem {O : Option Nat} {x : Nat} (h : x ∈ O.toList) : O = some x := by
  cases O with
  | none => simp at h
  | some g => simp at h; rw [h]
theorem own_ne {O R : Option Nat} {n b : Nat} (h : Of R O n) (hv : O ≠ some b) (hb : b < n) : R ≠ some b := fun e => hv (of_mem (h b e hb))
theorem own_dj {O R S : Option Nat} {n : Nat} (h : Of R O n) (hv : ∀ x, O = some x → S ≠ some x) (hb : ∀ x, S = some x → x < n) : ∀ x, R = some x → S ≠ some x :=
  fun x hx hs => hv x (of_mem (h x hx (hb x hs))) hs
theorem dj_symm {O R : Option Nat} (h : ∀ x, O = some x → R ≠ some x) : ∀ x, R = some x → O ≠ some x := fun x h1 h2 => h x h2 h1
theorem dj_new {O : Option Nat} {n e : Nat} (h : ∀ x, O = some x → x < n) (he : n ≤ e) : ∀ x, O = some x → some e ≠ some x := fun x hx h2 => by have := h x hx; have := Option.some.inj h2; omega
theorem ne_new {O : Option Nat} {n e : Nat} (h : ∀ x, O = some x → x < n) (he : n ≤ e) : O ≠ some e := fun h2 => by have := h e h2; omega
theorem own_fr {O R : Option Nat} {n m : Nat} {F : List Nat} (h : Of R O n) (hv : Fr O m F) (hm : m ≤ n) : Fr R m F :=
  fun x hx hlt => hv x (of_mem (h x hx (by omega))) hlt
theorem of_trans {O R S : Option Nat} {n m : Nat} (h : Of R O n) (k : Of S R m) (hm : n ≤ m) : Of S O n := own_fr k h hm
theorem of_refl {O : Option Nat} {n : Nat} : Of O O n := fun x hx _ => by rw [hx]; simp
theorem fr_none {n : Nat} {F : List Nat} : Fr none n F := fun x hx => by cases hx
theorem fr_new {n e : Nat} {F : List Nat} (he : n ≤ e) : Fr (some e) n F := fun x hx hlt => by have := Option.some.inj hx; omega
theorem fb_new {n e : Nat} {F : List Nat} (he : n ≤ e) : Fb e n F := fun h => by omega
/-! ### Bytes -/
theorem addr_add_block (a : Addr) (n : Nat) : (a.add n).block = a.block := by unfold Addr.add; split <;> rfl
theorem cell_lt {w : World} {a : Addr} {v : Value} (h : w.cell? a = some v) : a.block < w.heap.size := World.block_lt_of_cell? w a h
/-- bytes as cells -/
def bs8 (l : List UInt8) : List Value := l.map fun c => .int .u8 (c.toNat : Int)
theorem bs8_length (l : List UInt8) : (bs8 l).length = l.length := by simp [bs8]
theorem bs8_append (l m : List UInt8) : bs8 (l ++ m) = bs8 l ++ bs8 m := by simp [bs8]
theorem bs8_one (l : List UInt8) : ∀ u ∈ bs8 l, u.oneCell' = true := by
  intro u hu
  simp only [bs8, List.mem_map] at hu
  obtain ⟨c, _, rfl⟩ := hu
  rfl
theorem bs8_get {l : List UInt8} {j : Nat} {x : UInt8} (h : l[j]? = some x) : (bs8 l)[j]? = some (.int .u8 (x.toNat : Int)) := by simp [bs8, h]
/-- a text -/
def str (l : List UInt8) : Value := .string ⟨l.toArray⟩
/-- The value v reads as the bytes l. -/
def Sl (w : World) (v : Value) (l : List UInt8) : Prop :=
  ∃ A c, v = .slice A l.length c ∧ l.length ≤ c ∧ c ≤ maxLen ∧ (A = none → c = 0) ∧ ∀ j x, l[j]? = some x → ∃ ad, A = some ad ∧ w.cell? (ad.add j) = some (.int .u8 (x.toNat : Int))
/-- The value v is a row of the bytes l, that may be appended to. -/
def Own (w : World) (v : Value) (l : List UInt8) : Prop := w.ownsRow 0 5 1 v l.length (bs8 l)
/-- the block in which v's bytes lie, if it has any -/
def sb (v : Value) (l : List UInt8) : Option Nat := if l = [] then none else v.ownBlock
theorem Sl.lt {w : World} {v : Value} {l : List UInt8} (h : Sl w v l) : ∀ x, sb v l = some x → x < w.heap.size := by
  intro x hx
  obtain ⟨A, c, rfl, h1, h2, h0, h3⟩ := h
  unfold sb at hx
  split at hx
  · cases hx
  · rename_i hl
    cases l with
    | nil => exact absurd rfl hl
    | cons y r =>
      obtain ⟨ad, rfl, hc⟩ := h3 0 y rfl
      have := cell_lt hc
      rw [addr_add_block] at this
      obtain rfl : ad.block = x := Option.some.inj hx
      exact this
theorem sb_ne {e b o n c : Nat} {l : List UInt8} (h : e ≠ b) : sb (.slice (some ⟨e, o, none⟩) n c) l ≠ some b := by
  unfold sb
  split
  · intro h; cases h
  · intro h2; exact h (Option.some.inj h2)
theorem dj_blk {O : Option Nat} {e o n c : Nat} {l : List UInt8} (h : O ≠ some e) : ∀ x, O = some x → sb (.slice (some ⟨e, o, none⟩) n c) l ≠ some x := by
  intro x hx
  exact sb_ne (fun he => h (by rw [hx, he]))
theorem Sl.off {F : List Nat} {w w' : World} {v : Value} {l : List UInt8} (h : Sl w v l) (k : Off F w w') (hF : ∀ b ∈ F, sb v l ≠ some b) : Sl w' v l := by
  obtain ⟨A, c, rfl, h1, h2, h0, h3⟩ := h
  refine ⟨A, c, rfl, h1, h2, h0, fun j x hj => ?_⟩
  obtain ⟨ad, rfl, hc⟩ := h3 j x hj
  refine ⟨ad, rfl, ?_⟩
  have hl : l ≠ [] := fun e => by subst e; simp at hj
  rw [World.cell?_of_block (w := w) (k.block _ (cell_lt hc) (fun hx => hF _ hx (by unfold sb; rw [if_neg hl]; simp [Value.ownBlock, addr_add_block])))]
  exact hc
theorem Own.off {F : List Nat} {w w' : World} {v : Value} {l : List UInt8} (h : Own w v l) (k : Off F w w') (hF : ∀ b ∈ F, v.ownBlock ≠ some b) : Own w' v l := by
  obtain ⟨h1, h2⟩ := h
  refine ⟨h1, h2.imp id ?_⟩
  rintro ⟨g, cap, cur, rfl, hb, hh, r⟩
  exact ⟨g, cap, cur, rfl, hb, by rw [k.block g (lt_of_block hh) (fun hx => hF g hx rfl)]; exact hh, r⟩
theorem Own.sl {w : World} {v : Value} {l : List UInt8} (h : Own w v l) : Sl w v l := by
  obtain ⟨h1, h2⟩ := h
  rcases h2 with ⟨rfl, hn⟩ | ⟨g, cap, cur, rfl, _, hh, hc, hm, hs, ht⟩
  · exact ⟨none, 0, by rw [hn], by omega, by unfold maxLen; omega, fun _ => rfl, fun j x hj => by
      have := (List.getElem?_eq_some_iff.1 hj).1; omega⟩
  · refine ⟨some ⟨g, 0, none⟩, cap, rfl, hc, hm, (fun h => by cases h), fun j x hj => ⟨_, rfl, ?_⟩⟩
    have hl := (List.getElem?_eq_some_iff.1 hj).1
    rw [Addr.add_mid, cell_of_row w g _ cur _ _ hh, Nat.zero_add]
    have e := bs8_get hj
    rw [← ht, List.getElem?_take_of_lt (by omega)] at e
    simpa using e
theorem own_nil (w : World) : Own w (.slice none 0 0) [] := ⟨rfl, .inl ⟨rfl, rfl⟩⟩
theorem sl_nil (w : World) : Sl w (.slice none 0 0) [] := (own_nil w).sl
theorem Own.lt {w : World} {v : Value} {l : List UInt8} (h : Own w v l) : ∀ g, v.ownBlock = some g → g < w.heap.size := by
  intro g hg
  rcases h.2 with ⟨rfl, _⟩ | ⟨g', cap, cur, rfl, _, hh, _⟩
  · cases hg
  · obtain rfl : g' = g := Option.some.inj hg
    exact lt_of_block hh
/-- a row of bytes is no block of another type -/
theorem Own.ne_blk {w : World} {v : Value} {l : List UInt8} (h : Own w v l) {b : Nat} {cs : Array Value} {t : TypeId} (hb : Blk w b cs t) (ht : t ≠ 5) : v.ownBlock ≠ some b := by
  intro e
  rcases h.2 with ⟨rfl, _⟩ | ⟨g', cap, cur, rfl, _, hh, _⟩
  · cases e
  · obtain rfl : g' = b := Option.some.inj e
    unfold Blk at hb
    rw [hh] at hb
    injection hb with hb
    injection hb with _ h2
    exact ht h2.symm
theorem Own.len {w : World} {v : Value} {l : List UInt8} (h : Own w v l) : ∃ A c, v = .slice A l.length c ∧ l.length ≤ c := by
  obtain ⟨A, c, rfl, h1, _⟩ := h.sl
  exact ⟨A, c, rfl, h1⟩
/-- A block of bytes as a row: the slice of all of it. -/
theorem own_blk {w : World} {g : Nat} {l : List UInt8} {cs : Array Value} (h : Blk w g cs 5) (hc : cs.toList = bs8 l) (hm : l.length ≤ maxLen) : Own w (.slice (some ⟨g, 0, none⟩) l.length l.length) l := by
  have hs : cs.size = l.length := by rw [← Array.length_toList, hc, bs8_length]
  exact ⟨by rw [bs8_length, Nat.mul_one], .inr ⟨g, l.length, cs, rfl, Nat.zero_le _, h, Nat.le_refl _, hm, by rw [hs, Nat.mul_one], by rw [hc, List.take_of_length_le (by rw [bs8_length]; omega)]⟩⟩
/-- bytes in a block, seen through a slice -/
theorem sl_blk {w : World} {g o n c : Nat} {l : List UInt8} {cs : Array Value} {t : TypeId} (h : Blk w g cs t) (hn : n = l.length) (hc : n ≤ c) (hm : c ≤ maxLen) (hl : ∀ j x, l[j]? = some x → cs[o + j]? = some (.int .u8 (x.toNat : Int))) : Sl w (.slice (some ⟨g, o, none⟩) n c) l := by
  subst hn
  exact ⟨some ⟨g, o, none⟩, c, rfl, hc, hm, (fun h => by cases h), fun j x hj => ⟨_, rfl, by rw [Addr.add_mid, blk_cell h]; exact hl j x hj⟩⟩

/-! ### The operations -/
section
variable {P : Program} {ops : Array Oper} {Q : Exit → Act → World → Prop} {w : World} {l : List Oper} {o : Oper} {a : Act}
/-- An operation that yields a value and leaves a world. -/
theorem wpL_run {v : Value} {W : World} (hw : Region.wanted o (yielded ops a.tmps) = true) (hr : (execOp a.eval o).run P w = .ok (.value v) W) (h : wpList P ops Q l (a.put o.dst v) W) : wpList P ops Q (o :: l) a w := by
  unfold wpList; rw [if_pos hw]
  refine .inl ?_
  unfold Oper.wp
  rw [hr]; exact h
/-- A new block. -/
theorem wpL_new {z : Array Value} {t : TypeId} (hw : Region.wanted o (yielded ops a.tmps) = true) (hr : (execOp a.eval o).run P w = .ok (.value (.pointer (some ⟨w.heap.size, 0, none⟩))) (w.alloc (.cells z t)))
    (h : ∀ (b : Nat) (W : World), w.heap.size ≤ b → Off [] w W → Blk W b z t → wpList P ops Q l (a.put o.dst (.pointer (some ⟨b, 0, none⟩))) W) : wpList P ops Q (o :: l) a w := by
  unfold wpList; rw [if_pos hw]
  refine .inl ?_
  unfold Oper.wp
  rw [hr]
  exact h _ _ (Nat.le_refl _) (off_alloc _ _) (blk_new _ _ rfl)
/-- A slice built in a new block. -/
theorem wpL_newS {z : Array Value} {t : TypeId} {n c : Nat} (hw : Region.wanted o (yielded ops a.tmps) = true) (hr : (execOp a.eval o).run P w = .ok (.value (.slice (some ⟨w.heap.size, 0, none⟩) n c)) (w.alloc (.cells z t)))
    (h : ∀ (b : Nat) (W : World), w.heap.size ≤ b → Off [] w W → Blk W b z t → wpList P ops Q l (a.put o.dst (.slice (some ⟨b, 0, none⟩) n c)) W) : wpList P ops Q (o :: l) a w := by
  unfold wpList; rw [if_pos hw]
  refine .inl ?_
  unfold Oper.wp
  rw [hr]
  exact h _ _ (Nat.le_refl _) (off_alloc _ _) (blk_new _ _ rfl)
theorem run_storeAt_cells {w : World} {b off : Nat} {cs : Array Value} {t ty : TypeId} {y : Value} (hB : Blk w b cs t) (ho : off + y.cells.size ≤ cs.size) (hi : (P.info? ty).map (·.size) = some y.cells.size) (h1 : y.cells.all (·.oneCell') = true) :
    (Instr.storeAt ty (.pointer (some ⟨b, off, none⟩)) y).run P w = .ok () (w.setCells b off y.cells.toList) := by
  have ht : ∀ j, j < y.cells.size → (w.cell? ⟨b, off + j, none⟩).isSome = true ∧ w.frozen? ⟨b, off + j, none⟩ = false := fun j hj => by
    rw [blk_cell hB, blk_free hB]
    exact ⟨by rw [Array.getElem?_eq_getElem (by omega)]; rfl, rfl⟩
  have := run_storeCells_cells (P := P) b off y.cells.toList 0 w (fun j hj => by simpa using (ht j (by simpa using hj)).1) (fun j hj => by simpa using (ht j (by simpa using hj)).2)
    (fun v hv => (Array.all_eq_true_iff_forall_mem.1 h1) v (by simpa using hv))
  cases hq : P.info? ty with
  | none => simp [hq] at hi
  | some i =>
    have hs : y.cells.size = i.size := by simp [hq] at hi; omega
    simp only [Nat.add_zero] at this
    simp [Instr.storeAt, Instr.sureAddr, Sem.run_bind, storeVar, sizeOf, typeInfo, hq, hs, this]
/-- cells put down from a place on -/
def spl (cs : Array Value) : Nat → List Value → Array Value
  | _, [] => cs
  | i, v :: r => spl (cs.setIfInBounds i v) (i + 1) r
theorem blk_setCells {b : Nat} {t : TypeId} : ∀ (vs : List Value) (i : Nat) (cs : Array Value) (w : World), Blk w b cs t → Blk (w.setCells b i vs) b (spl cs i vs) t ∧ Off [b] w (w.setCells b i vs)
  | [], _, _, w, h => ⟨h, Off.refl _ _⟩
  | v :: r, i, cs, w, h => by
    have h1 := blk_set h i v
    obtain ⟨h2, h3⟩ := blk_setCells r (i + 1) _ _ h1
    have h0 : Off [b] w (w.setCell ⟨b, i, none⟩ v) := ⟨rfl, rfl, rfl, by simp [World.setCell], fun k _ hk => Below.heap_setCell w ⟨b, i, none⟩ v k (by simpa using hk)⟩
    rw [World.setCells]
    exact ⟨h2, h0.trans h3 (fun _ hx => hx) (fun _ hx _ => hx)⟩
/-- A store at a place of a known block. -/
theorem wpL_put {ty t : TypeId} {x y : Operand} {b off : Nat} {cs : Array Value} {v : Value} (hw : Region.wanted o (yielded ops a.tmps) = true) (ho : o.op = .store ty x y) (hx : a.eval x = .pointer (some ⟨b, off, none⟩)) (hy : a.eval y = v)
    (hB : Blk w b cs t) (hs : off + v.cells.size ≤ cs.size) (hi : (P.info? ty).map (·.size) = some v.cells.size) (h1 : v.cells.all (·.oneCell') = true)
    (h : ∀ W, Off [b] w W → Blk W b (spl cs off v.cells.toList) t → wpList P ops Q l (a.put o.dst undef) W) : wpList P ops Q (o :: l) a w := by
  unfold wpList; rw [if_pos hw]
  refine .inl ?_
  unfold Oper.wp
  have hr : (execOp a.eval o).run P w = .ok .skip (w.setCells b off v.cells.toList) := by
    simp [execOp, ho, hx, hy, Sem.run_bind, run_storeAt_cells hB hs hi h1]
  rw [hr]
  obtain ⟨h2, h3⟩ := blk_setCells v.cells.toList off cs w hB
  exact h _ h3 h2
/-- A whole row is stored in its block. -/
theorem wpL_putrow {ty t : TypeId} {x y : Operand} {g : Nat} {cells old : Array Value} (hw : Region.wanted o (yielded ops a.tmps) = true) (ho : o.op = .store ty x y) (hx : a.eval x = .pointer (some ⟨g, 0, none⟩)) (hy : a.eval y = .agg cells)
    (hB : Blk w g old t) (hi : (P.info? ty).map (·.size) = some cells.size) (hs : old.size = cells.size) (h1 : cells.all (·.oneCell') = true)
    (h : ∀ W, Off [g] w W → Blk W g cells t → wpList P ops Q l (a.put o.dst undef) W) : wpList P ops Q (o :: l) a w :=
  wpL_store hw ho hx hy hB hi hs h1 (h _ ⟨rfl, rfl, rfl, by simp, fun k _ hk => setRow_other w g k cells (by simpa using hk)⟩ (blk_setRow hB cells))
theorem own_cells {w : World} {v : Value} {l : List UInt8} (h : Own w v l) : v.cells = #[v] ∧ v.oneCell' = true := by
  obtain ⟨A, c, rfl, _⟩ := h.len
  exact ⟨rfl, rfl⟩
theorem sl_cells {w : World} {v : Value} {l : List UInt8} (h : Sl w v l) : v.cells = #[v] ∧ v.oneCell' = true := by
  obtain ⟨A, c, rfl, _⟩ := h
  exact ⟨rfl, rfl⟩
/-- A store of one cell in a known block. -/
theorem wpL_put1 {ty t : TypeId} {x y : Operand} {b off : Nat} {cs : Array Value} {v : Value} (hv : v.cells = #[v] ∧ v.oneCell' = true) (hw : Region.wanted o (yielded ops a.tmps) = true) (ho : o.op = .store ty x y) (hx : a.eval x = .pointer (some ⟨b, off, none⟩)) (hy : a.eval y = v)
    (hB : Blk w b cs t) (hs : off < cs.size) (hi : (P.info? ty).map (·.size) = some 1)
    (h : ∀ W, Off [b] w W → Blk W b (cs.setIfInBounds off v) t → wpList P ops Q l (a.put o.dst undef) W) : wpList P ops Q (o :: l) a w := by
  refine wpL_put (v := v) hw ho hx hy hB (by rw [hv.1]; exact hs) (by rw [hv.1]; exact hi) (by rw [hv.1]; simp [hv.2]) fun W hO hB' => h W hO ?_
  rw [hv.1] at hB'
  exact hB'
/-- A load of one cell of a known block. -/
theorem wpL_get {b j : Nat} {cs : Array Value} {t ty : TypeId} {v : Value} {x : Operand} (hw : Region.wanted o (yielded ops a.tmps) = true) (ho : o.op = .load ty x) (hx : a.eval x = .pointer (some ⟨b, j, none⟩))
    (hB : Blk w b cs t) (hj : cs[j]? = some v) (hk : (P.underlying ty).map TypeDesc.isRow = some false) (h : wpList P ops Q l (a.put o.dst v) w) : wpList P ops Q (o :: l) a w := by
  refine wpL_val hw ?_ h
  have hc : w.cell? ⟨b, j, none⟩ = some v := by rw [blk_cell hB]; exact hj
  cases hu : P.underlying ty with
  | none => simp [hu] at hk
  | some d =>
    have hd : d.isRow = false := by simpa [hu] using hk
    unfold execOp
    simp only [ho, hx]
    cases d <;> simp_all [Instr.loadAt, Instr.sureAddr, Sem.run_bind, Sem.run_pure, Result.andThen_ok, run_underlying hu, TypeDesc.isRow]
    all_goals simp [loadVar, isAgg, Sem.run_bind, Sem.run_pure, Result.andThen_ok, run_underlying hu, TypeDesc.isRow, hc]
/-- A load of one cell, wherever it lies. -/
theorem wpL_at {ad : Addr} {ty : TypeId} {v : Value} {x : Operand} (hw : Region.wanted o (yielded ops a.tmps) = true) (ho : o.op = .load ty x) (hx : a.eval x = .pointer (some ad))
    (hc : w.cell? ad = some v) (hk : (P.underlying ty).map TypeDesc.isRow = some false) (h : wpList P ops Q l (a.put o.dst v) w) : wpList P ops Q (o :: l) a w := by
  refine wpL_val hw ?_ h
  cases hu : P.underlying ty with
  | none => simp [hu] at hk
  | some d =>
    have hd : d.isRow = false := by simpa [hu] using hk
    unfold execOp
    simp only [ho, hx]
    cases d <;> simp_all [Instr.loadAt, Instr.sureAddr, Sem.run_bind, Sem.run_pure, Result.andThen_ok, run_underlying hu, TypeDesc.isRow]
    all_goals simp [loadVar, isAgg, Sem.run_bind, Sem.run_pure, Result.andThen_ok, run_underlying hu, TypeDesc.isRow, hc]
/-- A load of a whole block. -/
theorem wpL_load0 {b : Nat} {cs : Array Value} {t ty : TypeId} {x : Operand} (hw : Region.wanted o (yielded ops a.tmps) = true) (ho : o.op = .load ty x) (hx : a.eval x = .pointer (some ⟨b, 0, none⟩))
    (hB : Blk w b cs t) (hk : (P.underlying ty).map TypeDesc.isRow = some true) (hi : (P.info? ty).map (·.size) = some cs.size) (h : wpList P ops Q l (a.put o.dst (.agg cs)) w) : wpList P ops Q (o :: l) a w := by
  refine wpL_val hw ?_ h
  cases hu : P.underlying ty with
  | none => simp [hu] at hk
  | some d =>
    have hd : d.isRow = true := by simpa [hu] using hk
    have := run_loadAt_mid (P := P) w b 0 ty cs.toList d (fun i v hv => by rw [blk_cell hB, Nat.zero_add]; simpa using hv) hu (by cases d <;> simp_all [TypeDesc.isRow]) (by simpa using hi)
    simp [execOp, ho, hx, Sem.run_bind, this]
/-- A load of a whole row that reads as cs. -/
theorem wpL_rd0 {b : Nat} {cs : Array Value} {ty : TypeId} {x : Operand} (hw : Region.wanted o (yielded ops a.tmps) = true) (ho : o.op = .load ty x) (hx : a.eval x = .pointer (some ⟨b, 0, none⟩))
    (hB : Rd w b cs) (hk : (P.underlying ty).map TypeDesc.isRow = some true) (hi : (P.info? ty).map (·.size) = some cs.size) (h : wpList P ops Q l (a.put o.dst (.agg cs)) w) : wpList P ops Q (o :: l) a w := by
  refine wpL_val hw ?_ h
  cases hu : P.underlying ty with
  | none => simp [hu] at hk
  | some d =>
    have hd : d.isRow = true := by simpa [hu] using hk
    have := run_loadAt_mid (P := P) w b 0 ty cs.toList d (fun i v hv => by rw [Nat.zero_add]; exact hB.1 i v (by simpa using hv)) hu (by cases d <;> simp_all [TypeDesc.isRow]) (by simpa using hi)
    simp [execOp, ho, hx, Sem.run_bind, this]
/-- A load of cells in a row (an array, a struct). -/
theorem wpL_gets {b j : Nat} {cs : Array Value} {t ty : TypeId} {vs : List Value} {x : Operand} (hw : Region.wanted o (yielded ops a.tmps) = true) (ho : o.op = .load ty x) (hx : a.eval x = .pointer (some ⟨b, j, none⟩))
    (hB : Blk w b cs t) (hj : ∀ i v, vs[i]? = some v → cs[j + i]? = some v) (hk : (P.underlying ty).map TypeDesc.isRow = some true) (hi : (P.info? ty).map (·.size) = some vs.length)
    (h : wpList P ops Q l (a.put o.dst (.agg vs.toArray)) w) : wpList P ops Q (o :: l) a w := by
  refine wpL_val hw ?_ h
  cases hu : P.underlying ty with
  | none => simp [hu] at hk
  | some d =>
    have hd : d.isRow = true := by simpa [hu] using hk
    have := run_loadAt_mid (P := P) w b j ty vs d (fun i v hv => by rw [blk_cell hB]; exact hj i v hv) hu (by cases d <;> simp_all [TypeDesc.isRow]) hi
    simp [execOp, ho, hx, Sem.run_bind, this]
/-- A call by its contract. -/
theorem wpL_call {f : FuncId} {xl : List Operand} {ts : Array TypeId} {args : Array Value} {R : Value → World → Prop} (hc : Calls P f args w fun e W => ∃ v, e = .returned v ∧ R v W) (hw : Region.wanted o (yielded ops a.tmps) = true)
    (ho : o.op = .call { callee := .value (.func f), args := xl.toArray, argTypes := ts }) (hg : isGo P f = true) (ha : (xl.map a.eval).toArray = args)
    (h : ∀ v W, R v W → wpList P ops Q l (a.put o.dst v) W) : wpList P ops Q (o :: l) a w := by
  unfold wpList; rw [if_pos hw]
  refine .inl ?_
  unfold Oper.wp
  rw [run_callGo ho rfl hg w, ha]
  exact hc.mono fun e W ⟨v, he, hR⟩ => by subst he; exact h v W hR
/-- A call whose value is known. -/
theorem wpL_callv {f : FuncId} {xl : List Operand} {ts : Array TypeId} {args : Array Value} {v : Value} {R : World → Prop} (hc : Calls P f args w fun e W => e = .returned v ∧ R W) (hw : Region.wanted o (yielded ops a.tmps) = true)
    (ho : o.op = .call { callee := .value (.func f), args := xl.toArray, argTypes := ts }) (hg : isGo P f = true) (ha : (xl.map a.eval).toArray = args)
    (h : ∀ W, R W → wpList P ops Q l (a.put o.dst v) W) : wpList P ops Q (o :: l) a w := by
  unfold wpList; rw [if_pos hw]
  refine .inl ?_
  unfold Oper.wp
  rw [run_callGo ho rfl hg w, ha]
  exact hc.mono fun e W ⟨he, hR⟩ => by subst he; exact h W hR
/-- A call that changes nothing old. -/
theorem wpL_ret {f : FuncId} {xl : List Operand} {ts : Array TypeId} {args : Array Value} {v : Value} (hc : Calls P f args w fun e W => Ret v w W e) (hw : Region.wanted o (yielded ops a.tmps) = true)
    (ho : o.op = .call { callee := .value (.func f), args := xl.toArray, argTypes := ts }) (hg : isGo P f = true) (ha : (xl.map a.eval).toArray = args)
    (h : ∀ W, Off [] w W → wpList P ops Q l (a.put o.dst v) W) : wpList P ops Q (o :: l) a w :=
  wpL_callv hc hw ho hg ha fun W hW => h W (off_ext hW)
/-- The same operations, the world being known by some facts alone. -/
theorem wpl_gen {R : World → Prop} (hR : R w) (h : ∀ W, R W → wpList P ops Q l a W) : wpList P ops Q l a w := h w hR
end
theorem bytes_info : (Try.prog.info? 5).map (fun i => (i.zero, i.size, i.bytes)) = some (some (.int .u8 0), 1, 1) := by kernel_rfl
/-- Bytes are appended to a row of bytes. -/
theorem run_append_bytes (w : World) (ty : TypeId) {v u : Value} {l m : List UInt8} (hown : Own w v l) (hs : Sl w u m) (hlen : l.length + m.length ≤ 140737488355328) :
    ∃ v' W, (Builtin.append_ #[26, 26] ty #[v, u]).run Try.prog w = .ok v' W ∧ Own W v' (l ++ m) ∧ Off v.ownBlock.toList w W ∧ (v'.ownBlock = v.ownBlock ∨ v'.ownBlock = some w.heap.size) ∧ (v' = .slice none 0 0 ↔ v = .slice none 0 0 ∧ m = []) := by
  obtain ⟨i, hi, hz, hsz, hby⟩ := info_parts bytes_info
  obtain ⟨A, c, rfl, hc, hm, _, hcell⟩ := hs
  rcases A with _ | ad
  · have : m = [] := by
      cases m with
      | nil => rfl
      | cons x r => obtain ⟨ad, h, _⟩ := hcell 0 x rfl; cases h
    subst this
    refine ⟨v, w, ?_, by rw [List.append_nil]; exact hown, Off.refl _ _, .inl rfl, by simp⟩
    rcases hown.2 with ⟨rfl, _⟩ | ⟨g, cap, cur, rfl, _, _, hnc, _⟩
    · simp [Builtin.append_, run_underlying Try.underlying26, sizeOf, typeInfo, hi, Builtin.lenOf, Builtin.firstCells]
    · simp [Builtin.append_, run_underlying Try.underlying26, sizeOf, typeInfo, hi, Builtin.lenOf, Builtin.firstCells, hnc, storeCells]
  · obtain ⟨v', W, hrun, h2, h3, h4, h5⟩ := run_append_own_at (P := Try.prog) w 0 26 ty 5 i (.int .u8 0) 1 1 Try.underlying26 hi hz hsz hby rfl (by omega) v l.length (bs8 l) hown ad m.length c (bs8 m)
      (by rw [bs8_length, Nat.mul_one]) (fun j u hu => by
        simp only [bs8, List.getElem?_map, Option.map_eq_some_iff] at hu
        obtain ⟨x, hx, rfl⟩ := hu
        obtain ⟨ad', h, hc'⟩ := hcell j x hx
        obtain rfl := Option.some.inj h
        exact hc') (bs8_one m) (by unfold maxLen; omega) (by omega) (Nat.zero_le _)
    refine ⟨v', W, hrun, ?_, off_grown h3, h5, ?_⟩
    · unfold Own; rw [List.length_append, bs8_append]; exact h2
    · rw [h4]; simp
theorem wpL_append {ops : Array Oper} {Q : Exit → Act → World → Prop} {w : World} {l : List Oper} {o : Oper} {a : Act} {s x : Operand} {v u : Value} {xs ys : List UInt8} (hw : Region.wanted o (yielded ops a.tmps) = true)
    (ho : o.op = .call { callee := .builtin .append, args := #[s, x], argTypes := #[26, 26] }) (hs : a.eval s = v) (hx : a.eval x = u) (hown : Own w v xs) (hsl : Sl w u ys) (hlen : xs.length + ys.length ≤ 140737488355328)
    (h : ∀ v' W, Own W v' (xs ++ ys) → Off v.ownBlock.toList w W → Of v'.ownBlock v.ownBlock w.heap.size → (v' = .slice none 0 0 ↔ v = .slice none 0 0 ∧ ys = []) → wpList Try.prog ops Q l (a.put o.dst v') W) : wpList Try.prog ops Q (o :: l) a w := by
  obtain ⟨v', W, hrun, h1, h2, h3, h4⟩ := run_append_bytes w o.type hown hsl hlen
  refine wpL_run hw (v := v') (W := W) ?_ (h v' W h1 h2 (of_or h3) h4)
  unfold execOp
  simp only [ho, resolve, invoke, builtin, Sem.run_bind, Sem.run_pure, Result.andThen_ok, List.map_toArray, List.map_cons, List.map_nil, hs, hx, hrun]
end Go.Proofs.Yteniajdmmffamaa
