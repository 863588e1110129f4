/- Steps of a walk that keeps one list of what lies where: rows of bytes and of elements, texts, slices. No conditions. Rows of elements that are only read; a row behind a row. No conditions. A text copied over an array; a cell stored in an element of a row. No conditions. -/
import Derived.Test.YtejkmhgkkibafaaGreatDoorMb
import Derived.Laws.CopyRow
set_option linter.unusedSimpArgs false
set_option linter.unusedVariables false
namespace Go.Proofs.YtejkmhgkkibafaaGreatDoor
open Go.RowKit
/-- a load of a row that lies within another -/
theorem run_atsub {P : Program} {a : Act} {W : World} {o : Oper} {b j : Nat} {sub : Array Value} {ty : TypeId} {x : Operand} (ho : o.op = .load ty x) (hx : a.eval x = .pointer (some ⟨b, j, none⟩)) (hc : ∀ i v, sub[i]? = some v → W.cell? ⟨b, j + i, none⟩ = some v)
    (hk : (P.underlying ty).map TypeDesc.isRow = some true) (hi : (P.info? ty).map (·.size) = some sub.size) : (execOp a.eval o).run P W = .ok (.value (.agg sub)) W :=
  run_atrow (vs := sub.toList) ho hx (fun i v hv => hc i v (by simpa using hv)) hk (by simpa using hi)
/-- the place of an element of an array -/
theorem run_ixarrn {P : Program} {w : World} {o : Oper} {a : Act} {x y : Operand} {t e : TypeId} {kk : IntKind} {m k b off j : Nat} (hj : j < m) (ht : P.underlying t = some (.array m e)) (he : (P.info? e).map (·.size) = some k) (ho : o.op = .indexAddr t x y) (hx : a.eval x = .pointer (some ⟨b, off, none⟩)) (hy : a.eval y = .int kk (j : Int)) :
    (execOp a.eval o).run P w = .ok (.value (.pointer (some ⟨b, off + j * k, none⟩))) w := by
  cases hq : P.info? e with
  | none => simp [hq] at he
  | some i =>
    have hs : i.size = k := by simpa [hq] using he
    simp [execOp, ho, hx, hy, Instr.indexAt, asIntOf, Instr.sureAddr, run_underlying ht, Sem.run_bind, sizeOf, typeInfo, hq, hs, hj, Addr.add_mid]
theorem run_rdrow {P : Program} {a : Act} {W : World} {o : Oper} {b : Nat} {cs : Array Value} {ty : TypeId} {x : Operand} (ho : o.op = .load ty x) (hx : a.eval x = .pointer (some ⟨b, 0, none⟩)) (hB : Rd W b cs)
    (hk : (P.underlying ty).map TypeDesc.isRow = some true) (hi : (P.info? ty).map (·.size) = some cs.size) : (execOp a.eval o).run P W = .ok (.value (.agg cs)) W :=
  run_atrow (vs := cs.toList) ho hx (fun i v hv => by rw [Nat.zero_add]; exact hB.1 i v (by simpa using hv)) hk (by simpa using hi)
section
variable {ops : Array Oper} {k : Wk} {Q : Exit → Act → World → Prop} {F : List Nat} {w : World} {H : List As} {l : List Oper} {o : Oper} {a : Act}
/-- append to row i, of bytes -/
theorem MA (i : Nat) {s x : Operand} {v u : Value} {xs ys : List UInt8} {H' : Value → List As} {a' : Value → Act} (hsl : ∀ W, SH F w W H → Sl W u ys) (hlen : xs.length + ys.length ≤ 140737488355328) (h : ∀ v', wpM Tryz.prog ops (.L Q) F w (H' v') l (a' v')) (hi : H[i]? = some (.o v xs) := by exact rfl) (hw : Region.wanted o (yielded ops a.tmps) = true := by exact rfl)
    (ho : o.op = .call { callee := .builtin .append, args := #[s, x], argTypes := #[22, 22] } := by exact rfl) (hs : a.eval s = v := by exact rfl) (hx : a.eval x = u := by exact rfl)
    (hH : ∀ v', H.set i (.o v' (xs ++ ys)) = H' v' := by intro v'; dsimp only [sB, sC]; first | done | exact rfl) (hp : ∀ v, a.put o.dst v = a' v := by intro b; first | exact pl (by dsimp only [mB, mC]; first | done | exact rfl) | exact pn | exact rfl) : wpM Tryz.prog ops (.L Q) F w H (o :: l) a := by
  intro W hS
  refine wpL_append hw ho hs hx (hS.own hi) (hsl W hS) hlen fun v' W' h1 h2 h3 _ => ?_
  rw [hp]
  exact h v' W' (by rw [← hH]; exact hS.seto hi h2 h1 h3)
theorem MAz (i : Nat) {s x : Operand} {v u : Value} {xs ys : List UInt8} {H' : Value → List As} {a' : Value → Act} (hsl : ∀ W, SH F w W H → Sl W u ys) (hlen : xs.length + ys.length ≤ 140737488355328) (h : ∀ v', wpM Tryz.prog ops (.L Q) F w (H' v') l (a' v')) (hi : H[i]? = some (.w v xs) := by exact rfl) (hw : Region.wanted o (yielded ops a.tmps) = true := by exact rfl)
    (ho : o.op = .call { callee := .builtin .append, args := #[s, x], argTypes := #[22, 22] } := by exact rfl) (hs : a.eval s = v := by exact rfl) (hx : a.eval x = u := by exact rfl)
    (hH : ∀ v', H.set i (.w v' (xs ++ ys)) = H' v' := by intro v'; dsimp only [sB, sC]; first | done | exact rfl) (hp : ∀ v, a.put o.dst v = a' v := by intro b; first | exact pl (by dsimp only [mB, mC]; first | done | exact rfl) | exact pn | exact rfl) : wpM Tryz.prog ops (.L Q) F w H (o :: l) a := by
  intro W hS
  refine wpL_appendz hw ho hs hx (hS.at_ hi) (hsl W hS) hlen fun v' W' h1 h2 h3 => ?_
  rw [hp]
  exact h v' W' (by rw [← hH]; exact hS.setw hi h2 h1 h3)
/-- append of one element (thing j) to row i -/
theorem MAr (i j : Nat) {s x : Operand} {v : Value} {es : List (List Value)} {t t2 tS : TypeId} {n g c bytes : Nat} {cs : Array Value} {e : List Value} {H' : Value → List As} {a' : Value → Act} (hlen : es.length + 1 ≤ 1099511627776) (h : ∀ v', wpM Tryz.prog ops (.L Q) F w (H' v') l (a' v')) (he : cs.toList = e := by exact rfl) (hi : H[i]? = some (.r t n v es) := by exact rfl) (hj : H[j]? = some (.b g cs t2) := by exact rfl)
    (hk : cs.size = n := by first | kernel_rfl | rfl) (h1 : cs.all (·.oneCell') = true := by first | kernel_rfl | rfl) (hk0 : 0 < n := by decide) (ht : Tryz.prog.underlying tS = some (.slice t) := by as_aux_lemma => kernel_rfl) (hb : (Tryz.prog.info? t).map (fun i => (i.zero.map (·.cells.size), i.size, i.bytes)) = some (some n, n, bytes) := by as_aux_lemma => kernel_rfl) (hbb : bytes ≤ 128 := by decide)
    (hw : Region.wanted o (yielded ops a.tmps) = true := by exact rfl) (ho : o.op = .call { callee := .builtin .append, args := #[s, x], argTypes := #[tS, tS] } := by exact rfl) (hs : a.eval s = v := by exact rfl) (hx : a.eval x = .slice (some ⟨g, 0, none⟩) 1 c := by exact rfl)
    (hH : ∀ v', H.set i (.r t n v' (es ++ [e])) = H' v' := by intro v'; dsimp only [sB, sC]; first | done | exact rfl) (hp : ∀ v, a.put o.dst v = a' v := by intro b; first | exact pl (by dsimp only [mB, mC]; first | done | exact rfl) | exact pn | exact rfl) : wpM Tryz.prog ops (.L Q) F w H (o :: l) a := by
  subst he
  intro W hS
  refine wpL_append1 hw ho hs hx (hS.row hi) (hS.blk hj) hk h1 hk0 ht hb (Nat.le_trans (Nat.mul_le_mul hlen hbb) (by decide)) (by unfold maxLen; omega) fun v' W' h1 h2 h3 => ?_
  rw [hp]
  exact h v' W' (by rw [← hH]; exact hS.setr hi h2 h1 h3)
/-- a text as bytes -/
theorem MY {x : Operand} {m : List UInt8} {a' : Value → Act} (hl : m.length ≤ 140737488355328) (h : ∀ v, wpM Tryz.prog ops (.L Q) F w (.w v m :: H) l (a' v)) (ht : H.all (SH.tyOk (.o undef [])) = true := by exact rfl) (hw : Region.wanted o (yielded ops a.tmps) = true := by exact rfl)
    (ho : o.op = .convert 9 22 x := by exact rfl) (hx : a.eval x = str m := by exact rfl) (hp : ∀ v, a.put o.dst v = a' v := by intro b; first | exact pl (by dsimp only [mB, mC]; first | done | exact rfl) | exact pn | exact rfl) : wpM Tryz.prog ops (.L Q) F w H (o :: l) a := by
  intro W hS
  refine wpL_bytesz hl hw ho hx fun v W' h1 h2 h3 => ?_
  rw [hp]
  exact h v W' (hS.new (x := .w v m) h2 h3 (fun k hk => Nat.le_of_not_lt fun hlt => by have := h1 k (As.mem_toList hk) hlt; cases this) rfl ht)
/-- thing i[:n] -/
theorem MH (i n : Nat) {x y : Operand} {v : Value} {m m' : List UInt8} {a' : Value → Act} (hn : n ≤ m.length) (h : ∀ u, wpM Tryz.prog ops k F w (.s u m' :: H) l (a' u)) (hi : H[i]? = some (.s v m) := by exact rfl) (hm : m.take n = m' := by exact rfl) (hw : Region.wanted o (yielded ops a.tmps) = true := by exact rfl)
    (ho : o.op = .slice 22 x none (some y) none := by exact rfl) (hx : a.eval x = v := by exact rfl) (hy : a.eval y = .int .i64 (n : Int) := by exact rfl) (hp : ∀ v, a.put o.dst v = a' v := by intro b; first | exact pl (by dsimp only [mB, mC]; first | done | exact rfl) | exact pn | exact rfl) : wpM Tryz.prog ops k F w H (o :: l) a := by
  subst hm
  intro W hS
  obtain ⟨u, hr, h1, h2, _⟩ := run_head (hS.sl hi) hn
  have hS' := hS.sub hi h1 h2
  have hrun : ∀ W, (execOp a.eval o).run Tryz.prog W = .ok (.value u) W := fun W => by simp [execOp, ho, hx, hy, hr W, Sem.run_bind]
  cases k with
  | L Q => exact wpL_val hw (hrun W) (by rw [hp]; exact h u W hS')
  | X E => exact wpX_val hw (fun W' _ => hrun W') (by rw [hp]; exact h u W hS')
/-- thing i[n:] -/
theorem Mt (i n : Nat) {x y : Operand} {v : Value} {m m' : List UInt8} {a' : Value → Act} (hn : n ≤ m.length) (h : ∀ u, wpM Tryz.prog ops k F w (.s u m' :: H) l (a' u)) (hi : H[i]? = some (.s v m) := by exact rfl) (hm : m.drop n = m' := by exact rfl) (hw : Region.wanted o (yielded ops a.tmps) = true := by exact rfl)
    (ho : o.op = .slice 22 x (some y) none none := by exact rfl) (hx : a.eval x = v := by exact rfl) (hy : a.eval y = .int .i64 (n : Int) := by exact rfl) (hp : ∀ v, a.put o.dst v = a' v := by intro b; first | exact pl (by dsimp only [mB, mC]; first | done | exact rfl) | exact pn | exact rfl) : wpM Tryz.prog ops k F w H (o :: l) a := by
  subst hm
  intro W hS
  obtain ⟨u, hr, h1, h2⟩ := run_tail (hS.sl hi) hn
  have hS' := hS.sub hi h1 h2
  have hrun : ∀ W, (execOp a.eval o).run Tryz.prog W = .ok (.value u) W := fun W => by simp [execOp, ho, hx, hy, hr W, Sem.run_bind]
  cases k with
  | L Q => exact wpL_val hw (hrun W) (by rw [hp]; exact h u W hS')
  | X E => exact wpX_val hw (fun W' _ => hrun W') (by rw [hp]; exact h u W hS')
/-- the place of an element of a row, and a load of what lies there -/
theorem row_cell {t : TypeId} {n g j : Nat} {W : World} {v : Value} {es : List (List Value)} {e : List Value} {c m : Nat} (h : Row t n W v es) (hv : v = .slice (some ⟨g, 0, none⟩) m c) (hj : es[j]? = some e) : ∀ i x, e[i]? = some x → W.cell? ⟨g, j * n + i, none⟩ = some x := by
  obtain ⟨g', c', e', h'⟩ := h.at hj
  rw [hv] at e'
  injection e' with e1
  injection e1 with e1
  injection e1 with e1
  subst e1
  exact h'
theorem MI (i j : Nat) {x y : Operand} {v : Value} {es : List (List Value)} {e : List Value} {t tS : TypeId} {n : Nat} {kk : IntKind} {a' : Nat → Act} (hj : es[j]? = some e) (h : ∀ g c, RowKit.Hid (v = .slice (some ⟨g, 0, none⟩) es.length c) → wpM Tryz.prog ops k F w H l (a' g)) (hi : H[i]? = some (.r t n v es) := by exact rfl) (hw : Region.wanted o (yielded ops a.tmps) = true := by exact rfl)
    (ho : o.op = .indexAddr tS x y := by exact rfl) (hx : a.eval x = v := by exact rfl) (hy : a.eval y = .int kk (j : Int) := by exact rfl) (ht : Tryz.prog.underlying tS = some (.slice t) := by as_aux_lemma => kernel_rfl) (hz : (Tryz.prog.info? t).map (·.size) = some n := by as_aux_lemma => kernel_rfl)
    (hp : ∀ g, a.put o.dst (.pointer (some ⟨g, j * n, none⟩)) = a' g := by intro b; first | exact pl (by dsimp only [mB, mC]; first | done | exact rfl) | exact pn | exact rfl) : wpM Tryz.prog ops k F w H (o :: l) a := by
  intro W hS
  have hlt := (List.getElem?_eq_some_iff.1 hj).1
  obtain ⟨g, c, hv, _⟩ := (hS.row hi).at hj
  have hrun : ∀ W, (execOp a.eval o).run Tryz.prog W = .ok (.value (.pointer (some ⟨g, j * n, none⟩))) W := fun W => by
    rw [run_ixR hlt ho (hx.trans hv) hy ht hz, Addr.add_mid, Nat.zero_add]
  cases k with
  | L Q => exact wpL_val hw (hrun W) (by rw [hp]; exact h g c (Lib.hid hv) W hS)
  | X E => exact wpX_val hw (fun W' _ => hrun W') (by rw [hp]; exact h g c (Lib.hid hv) W hS)
/-- the place of a byte -/
theorem MJ (i j : Nat) {x y : Operand} {v : Value} {m : List UInt8} {b : UInt8} {kk : IntKind} {a' : Addr → Act} (hj : m[j]? = some b) (h : ∀ ad c, RowKit.Hid (v = .slice (some ad) m.length c) → wpM Tryz.prog ops k F w H l (a' ad)) (hi : H[i]? = some (.s v m) := by exact rfl) (hw : Region.wanted o (yielded ops a.tmps) = true := by exact rfl)
    (ho : o.op = .indexAddr 22 x y := by exact rfl) (hx : a.eval x = v := by exact rfl) (hy : a.eval y = .int kk (j : Int) := by exact rfl)
    (hp : ∀ ad, a.put o.dst (.pointer (some (ad.add j))) = a' ad := by intro b; first | exact pl (by dsimp only [mB, mC]; first | done | exact rfl) | exact pn | exact rfl) : wpM Tryz.prog ops k F w H (o :: l) a := by
  intro W hS
  have hlt := (List.getElem?_eq_some_iff.1 hj).1
  obtain ⟨ad, c, hv, _⟩ := sl_form (hS.sl hi) (by omega)
  have hrun : ∀ W, (execOp a.eval o).run Tryz.prog W = .ok (.value (.pointer (some (ad.add j)))) W := fun W => run_ixa hlt ho (hx.trans hv) hy
  cases k with
  | L Q => exact wpL_val hw (hrun W) (by rw [hp]; exact h ad c (Lib.hid hv) W hS)
  | X E => exact wpX_val hw (fun W' _ => hrun W') (by rw [hp]; exact h ad c (Lib.hid hv) W hS)
end
namespace SH
variable {F : List Nat} {w W W' : World} {H : List As}
/-- bytes that are only read, in a new row -/
theorem newS {v : Value} {l : List UInt8} (h : SH F w W H) (q : Off [] W W') (hs : Sl W' v l) (hf : ∀ k, sb v l = some k → W.heap.size ≤ k) : SH F w W' (.s v l :: H) := by
  have h' := h.next q
  refine ⟨h'.off, fun y hy => ?_, List.pairwise_cons.2 ⟨fun y hy => ⟨fun h => by (cases h), fun _ k hk hk' => ?_⟩, h'.ap⟩, fun y hy hm k hk hlt => ?_⟩
  · rcases List.mem_cons.1 hy with rfl | hy
    · exact hs
    · exact h'.all y hy
  · exact Nat.not_lt.2 (hf k (As.mem_toList hk')) (As.lt (h.all y hy) k hk)
  · rcases List.mem_cons.1 hy with rfl | hy
    · cases hm
    · exact h.old y hy hm k hk hlt
/-- a fact of the beginning -/
theorem entp {f : List Nat} {K : World → Prop} (h : SH [] w W H) (hs : (As.p f K).holds w) : SH [] w W (.p f K :: H) := by
  refine ⟨h.off, fun y hy => ?_, List.pairwise_cons.2 ⟨fun y hy => ⟨fun h => by (cases h), fun hm k hk hk' => ?_⟩, h.ap⟩, fun y hy hm k hk hlt => ?_⟩
  · rcases List.mem_cons.1 hy with rfl | hy
    · exact As.keep0 h.off hs
    · exact h.all y hy
  · have := h.old y hy hm k hk (hs.2.1 k hk')
    cases this
  · rcases List.mem_cons.1 hy with rfl | hy
    · cases hm
    · exact h.old y hy hm k hk hlt
end SH
theorem rd_keep {w W : World} {b : Nat} {cs : Array Value} (h : Rd w b cs) (hs : w.heap.size ≤ W.heap.size) (e : W.heap[b]? = w.heap[b]?) : Rd W b cs :=
  ⟨fun j v hv => (World.cell?_of_block (w := w) e).trans (h.1 j v hv), Nat.lt_of_lt_of_le h.2 hs⟩
section
variable {ops : Array Oper} {k : Wk} {Q : Exit → Act → World → Prop} {F : List Nat} {w : World} {H : List As} {l : List Oper} {o : Oper} {a : Act}
end
end Go.Proofs.YtejkmhgkkibafaaGreatDoor

set_option linter.unusedSimpArgs false
set_option linter.unusedVariables false
namespace Go.Proofs.YtejkmhgkkibafaaGreatDoor
open Go.RowKit
theorem run_ixRA {P : Program} {a : Act} {o : Oper} {x y : Operand} {tS t : TypeId} {k g oo : Nat} {W : World} {kk : IntKind} {A : Option Addr} {n c j : Nat} (hA : A = some ⟨g, oo, none⟩) (hj : j < n) (ho : o.op = .indexAddr tS x y) (hx : a.eval x = .slice A n c) (hy : a.eval y = .int kk (j : Int)) (ht : P.underlying tS = some (.slice t)) (hi : (P.info? t).map (·.size) = some k) :
    (execOp a.eval o).run P W = .ok (.value (.pointer (some ⟨g, oo + j * k, none⟩))) W := by
  subst hA; rw [run_ixR hj ho hx hy ht hi, Addr.add_mid]
/-- The value v is read as a row of the elements es (their cells). -/
def RR (k : Nat) (w : World) (v : Value) (es : List (List Value)) : Prop :=
  ∃ A c, v = .slice A es.length c ∧ es.length ≤ c ∧ (A = none → c = 0) ∧ ∀ (j : Nat) (e : List Value), es[j]? = some e → ∃ g o, A = some ⟨g, o, none⟩ ∧ ∀ (i : Nat) (x : Value), e[i]? = some x → w.cell? ⟨g, o + j * k + i, none⟩ = some x
theorem RR.ext {k : Nat} {w W : World} {v : Value} {es : List (List Value)} (h : RR k w v es) (q : Ext w W) : RR k W v es := by
  obtain ⟨A, c, h1, h2, h0, h3⟩ := h
  refine ⟨A, c, h1, h2, h0, fun j e hj => ?_⟩
  obtain ⟨g, o, h4, h5⟩ := h3 j e hj
  exact ⟨g, o, h4, fun i x hx => cell_ext (h5 i x hx) q⟩
theorem RR.cellat {k n c j g o : Nat} {w : World} {A : Option Addr} {es : List (List Value)} {e : List Value} (h : RR k w (.slice A n c) es) (hj : es[j]? = some e) (hA : A = some ⟨g, o, none⟩) : ∀ (i : Nat) (x : Value), e[i]? = some x → w.cell? ⟨g, o + j * k + i, none⟩ = some x := by
  obtain ⟨A', c', h1, _, _, h3⟩ := h
  injection h1 with h1
  obtain ⟨g', o', h4, h5⟩ := h3 j e hj
  rw [← h1, hA] at h4
  injection h4 with h4
  injection h4 with h6 h7
  subst h6; subst h7
  exact h5
theorem rr_nil (k : Nat) (w : World) : RR k w (.slice none 0 0) [] := ⟨none, 0, rfl, Nat.le_refl _, fun _ => rfl, fun j e h => by simp at h⟩
theorem Row.rr {t : TypeId} {k : Nat} {w : World} {v : Value} {es : List (List Value)} (h : Row t k w v es) : RR k w v es := by
  have h0 : ∃ A c, v = .slice A es.length c ∧ es.length ≤ c ∧ (A = none → c = 0) := by
    rcases h.1.2 with ⟨rfl, hn⟩ | ⟨g, cap, cur, rfl, _, hh, hc, _⟩
    · exact ⟨none, 0, by rw [hn], by omega, fun _ => rfl⟩
    · exact ⟨_, _, rfl, hc, fun e => by cases e⟩
  obtain ⟨A, c, h1, h2, h3⟩ := h0
  refine ⟨A, c, h1, h2, h3, fun j e hj => ?_⟩
  obtain ⟨g, c', h3, h4⟩ := h.at hj
  rw [h1] at h3
  injection h3 with h3
  exact ⟨g, 0, h3, fun i x hx => by rw [Nat.zero_add]; exact h4 i x hx⟩
section
variable {ops : Array Oper} {Q : Exit → Act → World → Prop} {F : List Nat} {w : World} {H : List As} {l : List Oper} {o : Oper} {a : Act}
end
end Go.Proofs.YtejkmhgkkibafaaGreatDoor

set_option linter.unusedSimpArgs false
set_option linter.unusedVariables false
namespace Go.Proofs.YtejkmhgkkibafaaGreatDoor
open Go.RowKit
attribute [local irreducible] wpList wpTr wpX
/-- the ways through a region meet again behind it -/
theorem RJ {P : Program} {ops : Array Oper} {id : Nat} {a : Act} {w : World} {Q : Exit → Act → World → Prop} {R : Act → World → Prop} (h : (Code.region id ops true).wp P (Nml R) a w) (hk : ∀ a' w', R a' w' → Q .normal a' w') : (Code.region id ops true).wp P Q a w :=
  Code.wp_mono (fun e a' w' h' => by cases e <;> first | exact hk _ _ h' | exact (h' : False).elim) h
section
variable {ops : Array Oper} {Q : Exit → Act → World → Prop} {F : List Nat} {w : World} {H H' : List As} {r : List Oper} {o : Oper} {a a' : Act}
end
end Go.Proofs.YtejkmhgkkibafaaGreatDoor
