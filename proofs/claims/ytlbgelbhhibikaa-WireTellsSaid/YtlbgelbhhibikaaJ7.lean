/- Steps of a walk that keeps one list of what lies where: rows of bytes and of elements, texts, slices. No conditions. Rows of elements that are only read; a row behind a row. No conditions. A text copied over an array; a cell stored in an element of a row. No conditions. Bytes of a number as a list; arrays of bytes seen as slices; parts of a sum. No conditions. -/
import Derived.Test.YtlbgelbhhibikaaMb
import Derived.Laws.CopyRow
import Derived.Test.YtlbgelbhhibikaaGc
set_option linter.unusedSimpArgs false
set_option linter.unusedVariables false
namespace Go.Proofs.Ytlbgelbhhibikaa
open Go.RowKit
/-- a load of a row that lies within another -/
theorem run_atsub {P : Program} {a : Act} {W : World} {o : Oper} {b j : Nat} {sub : Array Value} {ty : TypeId} {x : Operand} (ho : o.op = .load ty x) (hx : a.eval x = .pointer (some ⟨b, j, none⟩)) (hc : ∀ i v, sub[i]? = some v → W.cell? ⟨b, j + i, none⟩ = some v)
    (hk : (P.underlying ty).map TypeDesc.isRow = some true) (hi : (P.info? ty).map (·.size) = some sub.size) : (execOp a.eval o).run P W = .ok (.value (.agg sub)) W :=
  run_atrow (vs := sub.toList) ho hx (fun i v hv => hc i v (by simpa using hv)) hk (by simpa using hi)
section
variable {ops : Array Oper} {k : Wk} {Q : Exit → Act → World → Prop} {F : List Nat} {w : World} {H : List As} {l : List Oper} {o : Oper} {a : Act}
/-- append to row i, of bytes -/
theorem MA (i : Nat) {s x : Operand} {v u : Value} {xs ys : List UInt8} {H' : Value → List As} {a' : Value → Act} (hsl : ∀ W, SH F w W H → Sl W u ys) (hlen : xs.length + ys.length ≤ 140737488355328) (h : ∀ v', wpM Try.prog ops (.L Q) F w (H' v') l (a' v')) (hi : H[i]? = some (.o v xs) := by exact rfl) (hw : Region.wanted o (yielded ops a.tmps) = true := by exact rfl)
    (ho : o.op = .call { callee := .builtin .append, args := #[s, x], argTypes := #[26, 26] } := by exact rfl) (hs : a.eval s = v := by exact rfl) (hx : a.eval x = u := by exact rfl)
    (hH : ∀ v', H.set i (.o v' (xs ++ ys)) = H' v' := by intro v'; dsimp only [sB, sC]; first | done | exact rfl) (hp : ∀ v, a.put o.dst v = a' v := by intro b; first | exact pl (by dsimp only [mB, mC]; first | done | exact rfl) | exact pn | exact rfl) : wpM Try.prog ops (.L Q) F w H (o :: l) a := by
  intro W hS
  refine wpL_append hw ho hs hx (hS.own hi) (hsl W hS) hlen fun v' W' h1 h2 h3 _ => ?_
  rw [hp]
  exact h v' W' (by rw [← hH]; exact hS.seto hi h2 h1 h3)
/-- append of one element (thing j) to row i -/
theorem MAr (i j : Nat) {s x : Operand} {v : Value} {es : List (List Value)} {t t2 tS : TypeId} {n g c bytes : Nat} {cs : Array Value} {e : List Value} {H' : Value → List As} {a' : Value → Act} (hlen : es.length + 1 ≤ 1099511627776) (h : ∀ v', wpM Try.prog ops (.L Q) F w (H' v') l (a' v')) (he : cs.toList = e := by exact rfl) (hi : H[i]? = some (.r t n v es) := by exact rfl) (hj : H[j]? = some (.b g cs t2) := by exact rfl)
    (hk : cs.size = n := by first | kernel_rfl | rfl) (h1 : cs.all (·.oneCell') = true := by first | kernel_rfl | rfl) (hk0 : 0 < n := by decide) (ht : Try.prog.underlying tS = some (.slice t) := by as_aux_lemma => kernel_rfl) (hb : (Try.prog.info? t).map (fun i => (i.zero.map (·.cells.size), i.size, i.bytes)) = some (some n, n, bytes) := by as_aux_lemma => kernel_rfl) (hbb : bytes ≤ 128 := by decide)
    (hw : Region.wanted o (yielded ops a.tmps) = true := by exact rfl) (ho : o.op = .call { callee := .builtin .append, args := #[s, x], argTypes := #[tS, tS] } := by exact rfl) (hs : a.eval s = v := by exact rfl) (hx : a.eval x = .slice (some ⟨g, 0, none⟩) 1 c := by exact rfl)
    (hH : ∀ v', H.set i (.r t n v' (es ++ [e])) = H' v' := by intro v'; dsimp only [sB, sC]; first | done | exact rfl) (hp : ∀ v, a.put o.dst v = a' v := by intro b; first | exact pl (by dsimp only [mB, mC]; first | done | exact rfl) | exact pn | exact rfl) : wpM Try.prog ops (.L Q) F w H (o :: l) a := by
  subst he
  intro W hS
  refine wpL_append1 hw ho hs hx (hS.row hi) (hS.blk hj) hk h1 hk0 ht hb (Nat.le_trans (Nat.mul_le_mul hlen hbb) (by decide)) (by unfold maxLen; omega) fun v' W' h1 h2 h3 => ?_
  rw [hp]
  exact h v' W' (by rw [← hH]; exact hS.setr hi h2 h1 h3)
/-- make([]byte, n) -/
theorem MK {x y : Operand} {n : Nat} {a' : Value → Act} (hn : n ≤ 140737488355328) (h : ∀ v, wpM Try.prog ops (.L Q) F w (.o v (List.replicate n 0) :: H) l (a' v)) (ht : H.all (SH.tyOk (.o undef [])) = true := by exact rfl) (hw : Region.wanted o (yielded ops a.tmps) = true := by exact rfl)
    (ho : o.op = .makeSlice 26 x y := by exact rfl) (hx : a.eval x = .int .i64 (n : Int) := by exact rfl) (hy : a.eval y = .int .i64 (n : Int) := by exact rfl) (hp : ∀ v, a.put o.dst v = a' v := by intro b; first | exact pl (by dsimp only [mB, mC]; first | done | exact rfl) | exact pn | exact rfl) : wpM Try.prog ops (.L Q) F w H (o :: l) a := by
  intro W hS
  refine wpL_make hn hw ho hx hy fun b W' hb hO hO' => ?_
  rw [hp]
  exact h _ W' (hS.new (x := .o (.slice (some ⟨b, 0, none⟩) n n) (List.replicate n 0)) hO hO' (fun k hk => by rw [show k = b from List.mem_singleton.1 hk]; exact hb) rfl ht)
/-- a text as bytes -/
theorem MY {x : Operand} {m : List UInt8} {a' : Value → Act} (hl : m.length ≤ 140737488355328) (h : ∀ v, wpM Try.prog ops (.L Q) F w (.w v m :: H) l (a' v)) (ht : H.all (SH.tyOk (.o undef [])) = true := by exact rfl) (hw : Region.wanted o (yielded ops a.tmps) = true := by exact rfl)
    (ho : o.op = .convert 9 26 x := by exact rfl) (hx : a.eval x = str m := by exact rfl) (hp : ∀ v, a.put o.dst v = a' v := by intro b; first | exact pl (by dsimp only [mB, mC]; first | done | exact rfl) | exact pn | exact rfl) : wpM Try.prog ops (.L Q) F w H (o :: l) a := by
  intro W hS
  refine wpL_bytesz hl hw ho hx fun v W' h1 h2 h3 => ?_
  rw [hp]
  exact h v W' (hS.new (x := .w v m) h2 h3 (fun k hk => Nat.le_of_not_lt fun hlt => by have := h1 k (As.mem_toList hk) hlt; cases this) rfl ht)
/-- thing i[:n] -/
theorem MH (i n : Nat) {x y : Operand} {v : Value} {m m' : List UInt8} {a' : Value → Act} (hn : n ≤ m.length) (h : ∀ u, wpM Try.prog ops k F w (.s u m' :: H) l (a' u)) (hi : H[i]? = some (.s v m) := by exact rfl) (hm : m.take n = m' := by exact rfl) (hw : Region.wanted o (yielded ops a.tmps) = true := by exact rfl)
    (ho : o.op = .slice 26 x none (some y) none := by exact rfl) (hx : a.eval x = v := by exact rfl) (hy : a.eval y = .int .i64 (n : Int) := by exact rfl) (hp : ∀ v, a.put o.dst v = a' v := by intro b; first | exact pl (by dsimp only [mB, mC]; first | done | exact rfl) | exact pn | exact rfl) : wpM Try.prog ops k F w H (o :: l) a := by
  subst hm
  intro W hS
  obtain ⟨u, hr, h1, h2, _⟩ := run_head (hS.sl hi) hn
  have hS' := hS.sub hi h1 h2
  have hrun : ∀ W, (execOp a.eval o).run Try.prog W = .ok (.value u) W := fun W => by simp [execOp, ho, hx, hy, hr W, Sem.run_bind]
  cases k with
  | L Q => exact wpL_val hw (hrun W) (by rw [hp]; exact h u W hS')
  | X E => exact wpX_val hw (fun W' _ => hrun W') (by rw [hp]; exact h u W hS')
end
namespace SH
variable {F : List Nat} {w W W' : World} {H : List As}
/-- a fact of the beginning -/
theorem entp {f : List Nat} {K : World → Prop} (h : SH [] w W H) (hs : (As.p f K).holds w) : SH [] w W (.p f K :: H) := by
  refine ⟨h.off, fun y hy => ?_, List.pairwise_cons.2 ⟨fun y hy => ⟨fun h => by (cases h), fun hm k hk hk' => ?_⟩, h.ap⟩, fun y hy hm k hk hlt => ?_⟩
  · rcases List.mem_cons.1 hy with rfl | hy
    · exact As.keep0 h.off hs
    · exact h.all y hy
  · have := h.old y hy hm k hk (hs.2.1 k hk')
    cases this
  · rcases List.mem_cons.1 hy with rfl | hy
    · cases hm
    · exact h.old y hy hm k hk hlt
end SH
section
variable {ops : Array Oper} {k : Wk} {Q : Exit → Act → World → Prop} {F : List Nat} {w : World} {H : List As} {l : List Oper} {o : Oper} {a : Act}
/-- []T{} -/
theorem MB0 {t : TypeId} {n : Nat} {a' : Value → Act} (h : ∀ v, wpM Try.prog ops (.L Q) F w (.r t n v [] :: H) l (a' v)) (ht : H.all (SH.tyOk (.r t n undef [])) = true := by exact rfl) (hw : Region.wanted o (yielded ops a.tmps) = true := by exact rfl)
    (hr : ∀ w, (execOp a.eval o).run Try.prog w = .ok (.value (.slice (some ⟨w.heap.size, 0, none⟩) 0 0)) (w.alloc (.cells #[] t)) := by intro w; first | kernel_rfl | (go_simp; done) | (go_simp; rfl))
    (hp : ∀ v, a.put o.dst v = a' v := by intro b; first | exact pl (by dsimp only [mB, mC]; first | done | exact rfl) | exact pn | exact rfl) : wpM Try.prog ops (.L Q) F w H (o :: l) a := by
  intro W hS
  refine wpL_newS hw (hr W) fun b W' hn hO hB => ?_
  rw [hp]
  exact h _ W' (hS.new (x := .r t n (.slice (some ⟨b, 0, none⟩) 0 0) []) hO (row_blk (es := []) hB rfl (by simp) (Nat.zero_le _)) (fun k hk => by rw [show k = b from List.mem_singleton.1 hk]; exact hn) rfl ht)
end
end Go.Proofs.Ytlbgelbhhibikaa

set_option linter.unusedSimpArgs false
set_option linter.unusedVariables false
namespace Go.Proofs.Ytlbgelbhhibikaa
open Go.RowKit
theorem run_ixRA {P : Program} {a : Act} {o : Oper} {x y : Operand} {tS t : TypeId} {k g oo : Nat} {W : World} {kk : IntKind} {A : Option Addr} {n c j : Nat} (hA : A = some ⟨g, oo, none⟩) (hj : j < n) (ho : o.op = .indexAddr tS x y) (hx : a.eval x = .slice A n c) (hy : a.eval y = .int kk (j : Int)) (ht : P.underlying tS = some (.slice t)) (hi : (P.info? t).map (·.size) = some k) :
    (execOp a.eval o).run P W = .ok (.value (.pointer (some ⟨g, oo + j * k, none⟩))) W := by
  subst hA; rw [run_ixR hj ho hx hy ht hi, Addr.add_mid]
/-- The value v is read as a row of the elements es (their cells). -/
def RR (k : Nat) (w : World) (v : Value) (es : List (List Value)) : Prop :=
  ∃ A c, v = .slice A es.length c ∧ es.length ≤ c ∧ (A = none → c = 0) ∧ ∀ (j : Nat) (e : List Value), es[j]? = some e → ∃ g o, A = some ⟨g, o, none⟩ ∧ ∀ (i : Nat) (x : Value), e[i]? = some x → w.cell? ⟨g, o + j * k + i, none⟩ = some x
theorem RR.ext {k : Nat} {w W : World} {v : Value} {es : List (List Value)} (h : RR k w v es) (q : Ext w W) : RR k W v es := by
  obtain ⟨A, c, h1, h2, h0, h3⟩ := h
  refine ⟨A, c, h1, h2, h0, fun j e hj => ?_⟩
  obtain ⟨g, o, h4, h5⟩ := h3 j e hj
  exact ⟨g, o, h4, fun i x hx => cell_ext (h5 i x hx) q⟩
theorem RR.cellat {k n c j g o : Nat} {w : World} {A : Option Addr} {es : List (List Value)} {e : List Value} (h : RR k w (.slice A n c) es) (hj : es[j]? = some e) (hA : A = some ⟨g, o, none⟩) : ∀ (i : Nat) (x : Value), e[i]? = some x → w.cell? ⟨g, o + j * k + i, none⟩ = some x := by
  obtain ⟨A', c', h1, _, _, h3⟩ := h
  injection h1 with h1
  obtain ⟨g', o', h4, h5⟩ := h3 j e hj
  rw [← h1, hA] at h4
  injection h4 with h4
  injection h4 with h6 h7
  subst h6; subst h7
  exact h5
theorem rr_nil (k : Nat) (w : World) : RR k w (.slice none 0 0) [] := ⟨none, 0, rfl, Nat.le_refl _, fun _ => rfl, fun j e h => by simp at h⟩
theorem Row.rr {t : TypeId} {k : Nat} {w : World} {v : Value} {es : List (List Value)} (h : Row t k w v es) : RR k w v es := by
  have h0 : ∃ A c, v = .slice A es.length c ∧ es.length ≤ c ∧ (A = none → c = 0) := by
    rcases h.1.2 with ⟨rfl, hn⟩ | ⟨g, cap, cur, rfl, _, hh, hc, _⟩
    · exact ⟨none, 0, by rw [hn], by omega, fun _ => rfl⟩
    · exact ⟨_, _, rfl, hc, fun e => by cases e⟩
  obtain ⟨A, c, h1, h2, h3⟩ := h0
  refine ⟨A, c, h1, h2, h3, fun j e hj => ?_⟩
  obtain ⟨g, c', h3, h4⟩ := h.at hj
  rw [h1] at h3
  injection h3 with h3
  exact ⟨g, 0, h3, fun i x hx => by rw [Nat.zero_add]; exact h4 i x hx⟩
theorem flt_at {k : Nat} : ∀ {fs : List (List Value)} {j : Nat} {u : Value}, (∀ e ∈ fs, e.length = k) → fs.flatten[j]? = some u → ∃ q e r, fs[q]? = some e ∧ e[r]? = some u ∧ j = q * k + r
  | [], j, u, _, h => by simp at h
  | f :: fs, j, u, hk, h => by
    have hf := hk f (by simp)
    rw [List.flatten_cons] at h
    rcases Nat.lt_or_ge j f.length with hj | hj
    · rw [List.getElem?_append_left hj] at h
      exact ⟨0, f, j, rfl, h, by omega⟩
    · rw [List.getElem?_append_right hj] at h
      obtain ⟨q, e, r, h1, h2, h3⟩ := flt_at (fun e he => hk e (by simp [he])) h
      exact ⟨q + 1, e, r, h1, h2, by rw [Nat.add_mul, Nat.one_mul]; omega⟩
theorem flt_len {k : Nat} : ∀ {fs : List (List Value)}, (∀ e ∈ fs, e.length = k) → fs.flatten.length = fs.length * k
  | [], _ => by simp
  | f :: fs, h => by rw [List.flatten_cons, List.length_append, h f (by simp), flt_len fun e he => h e (by simp [he]), List.length_cons, Nat.add_mul, Nat.one_mul, Nat.add_comm]
/-- x[:m] of a row that is read -/
theorem rr_head {P : Program} {tS t : TypeId} {k m : Nat} {w : World} {v : Value} {es : List (List Value)} (h : RR k w v es) (hm : m ≤ es.length) (ht : P.underlying tS = some (.slice t)) (hi : (P.info? t).map (·.size) = some k) :
    ∃ u, (∀ W, (Instr.sliceAt tS v none (some (.int .i64 (m : Int))) none).run P W = .ok u W) ∧ ∀ W, RR k W v es → RR k W u (es.take m) := by
  obtain ⟨A, c, rfl, h1, h0, _⟩ := h
  have hr : ∀ W, (Instr.sliceAt tS (.slice A es.length c) none (some (.int .i64 (m : Int))) none).run P W = .ok (.slice (if c = 0 then A else A.map (·.add 0)) m c) W := by
    intro W
    have hnc : m ≤ c := by omega
    cases hq : P.info? t with
    | none => simp [hq] at hi
    | some i => simp [Instr.sliceAt, Instr.slice, Instr.sliceBounds, Instr.sliceBound, asIntOf, run_underlying ht, Sem.run_bind, sizeOf, typeInfo, hq, hnc]
  have hA : (if c = 0 then A else A.map (·.add 0)) = A := by
    have : ∀ a : Addr, a.add 0 = a := fun a => by unfold Addr.add; simp
    cases A <;> simp [this]
  rw [hA] at hr
  refine ⟨_, hr, fun W hW => ?_⟩
  obtain ⟨A', c', he, _, _, h3⟩ := hW
  injection he with e1 _ e2
  subst e1 e2
  have hl : (es.take m).length = m := by rw [List.length_take]; omega
  refine ⟨A, c, by rw [hl], by omega, h0, fun j e hj => h3 j e ?_⟩
  rw [List.getElem?_take] at hj
  split at hj
  · exact hj
  · cases hj
theorem run_headV {P : Program} {a : Act} {o : Oper} {x y : Operand} {tS : TypeId} {v k u : Value} {W : World} (hr : ∀ W, (Instr.sliceAt tS v none (some k) none).run P W = .ok u W) (ho : o.op = .slice tS x none (some y) none) (hx : a.eval x = v) (hy : a.eval y = k) : (execOp a.eval o).run P W = .ok (.value u) W := by
  simp [execOp, ho, hx, hy, hr W, Sem.run_bind]
section
variable {ops : Array Oper} {Q : Exit → Act → World → Prop} {F : List Nat} {w : World} {H : List As} {l : List Oper} {o : Oper} {a : Act}
theorem wpL_appendR {P : Program} {s x : Operand} {v u : Value} {es fs : List (List Value)} {t tS : TypeId} {k bytes : Nat} (hw : Region.wanted o (yielded ops a.tmps) = true) (ho : o.op = .call { callee := .builtin .append, args := #[s, x], argTypes := #[tS, tS] }) (hs : a.eval s = v) (hx : a.eval x = u)
    (hown : Row t k w v es) (hR : RR k w u fs) (hk : ∀ e ∈ fs, e.length = k ∧ ∀ x ∈ e, x.oneCell' = true) (hk0 : 0 < k) (ht : P.underlying tS = some (.slice t)) (hi : (P.info? t).map (fun i => (i.zero.map (·.cells.size), i.size, i.bytes)) = some (some k, k, bytes))
    (hlen : (es.length + fs.length) * bytes ≤ 140737488355328) (hl2 : es.length + fs.length ≤ maxLen)
    (h : ∀ v' W, Row t k W v' (es ++ fs) → Off v.ownBlock.toList w W → Of v'.ownBlock v.ownBlock w.heap.size → wpList P ops Q l (a.put o.dst v') W) : wpList P ops Q (o :: l) a w := by
  obtain ⟨i, z, hi, hz, hsz, hby, hzs⟩ := info_cells hi
  have hkl : ∀ e ∈ fs, e.length = k := fun e he => (hk e he).1
  obtain ⟨A, c, rfl, h1, h0, h3⟩ := hR
  have hrow : ∀ e ∈ es ++ fs, e.length = k := fun e he => by
    rcases List.mem_append.1 he with he | he
    · exact hown.2 e he
    · exact hkl e he
  cases A with
  | none =>
    have hc := h0 rfl
    have hf : fs = [] := List.eq_nil_of_length_eq_zero (by omega)
    subst hf; subst hc
    have hrun := run_append_owned_none (P := P) w 0 tS o.type t i k ht hi v es.length es.flatten hown.1
    refine wpL_run hw (v := v) (W := w) ?_ (h v w (by rw [List.append_nil]; exact hown) (Off.refl _ _) (of_or (.inl rfl)))
    unfold execOp
    simp only [ho, resolve, invoke, builtin, Sem.run_bind, Sem.run_pure, Result.andThen_ok, List.map_toArray, List.map_cons, List.map_nil, hs, hx]
    simp only [List.length_nil, hrun, Result.andThen_ok]
  | some ad =>
    obtain ⟨v', W, hrun, h2, h3', h4, h5⟩ := run_append_own_at (P := P) w 0 tS o.type t i z k bytes ht hi hz hsz hby hzs hk0 v es.length es.flatten hown.1 ad fs.length c fs.flatten (flt_len hkl)
      (fun j u hu => by
        obtain ⟨q, e, r, q1, q2, rfl⟩ := flt_at hkl hu
        obtain ⟨g, oo, hA, hc⟩ := h3 q e q1
        obtain rfl := Option.some.inj hA
        rw [Addr.add_mid, ← Nat.add_assoc]; exact hc r u q2)
      (fun u hu => by obtain ⟨e, he, hu⟩ := List.mem_flatten.1 hu; exact (hk e he).2 u hu) hl2 hlen (Nat.zero_le _)
    refine wpL_run hw (v := v') (W := W) ?_ (h v' W ⟨?_, hrow⟩ (off_grown h3') (of_or h5))
    · unfold execOp
      simp only [ho, resolve, invoke, builtin, Sem.run_bind, Sem.run_pure, Result.andThen_ok, List.map_toArray, List.map_cons, List.map_nil, hs, hx, hrun]
    · rw [List.length_append, List.flatten_append]; exact h2
/-- append of a row that is read to row i -/
theorem MAR (i : Nat) {s x : Operand} {v u : Value} {es fs : List (List Value)} {t tS : TypeId} {n bytes : Nat} {H' : Value → List As} {a' : Value → Act} (hR : ∀ W, SH F w W H → RR n W u fs) (hk : ∀ e ∈ fs, e.length = n ∧ ∀ x ∈ e, x.oneCell' = true) (hlen : es.length + fs.length ≤ 1099511627776) (h : ∀ v', wpM Try.prog ops (.L Q) F w (H' v') l (a' v')) (hi : H[i]? = some (.r t n v es) := by exact rfl)
    (hk0 : 0 < n := by decide) (ht : Try.prog.underlying tS = some (.slice t) := by as_aux_lemma => kernel_rfl) (hb : (Try.prog.info? t).map (fun i => (i.zero.map (·.cells.size), i.size, i.bytes)) = some (some n, n, bytes) := by as_aux_lemma => kernel_rfl) (hbb : bytes ≤ 128 := by decide)
    (hw : Region.wanted o (yielded ops a.tmps) = true := by exact rfl) (ho : o.op = .call { callee := .builtin .append, args := #[s, x], argTypes := #[tS, tS] } := by exact rfl) (hs : a.eval s = v := by exact rfl) (hx : a.eval x = u := by exact rfl)
    (hH : ∀ v', H.set i (.r t n v' (es ++ fs)) = H' v' := by intro v'; dsimp only [sB, sC]; first | done | exact rfl) (hp : ∀ v, a.put o.dst v = a' v := by intro b; first | exact pl (by dsimp only [mB, mC]; first | done | exact rfl) | exact pn | exact rfl) : wpM Try.prog ops (.L Q) F w H (o :: l) a := by
  intro W hS
  refine wpL_appendR hw ho hs hx (hS.row hi) (hR W hS) hk hk0 ht hb (Nat.le_trans (Nat.mul_le_mul hlen hbb) (by decide)) (by unfold maxLen; omega) fun v' W' h1 h2 h3 => ?_
  rw [hp]
  exact h v' W' (by rw [← hH]; exact hS.setr hi h2 h1 h3)
end
end Go.Proofs.Ytlbgelbhhibikaa

set_option linter.unusedSimpArgs false
set_option linter.unusedVariables false
namespace Go.Proofs.Ytlbgelbhhibikaa
open Go.RowKit
attribute [local irreducible] wpList wpTr wpX
/-- the ways through a region meet again behind it -/
theorem RJ {P : Program} {ops : Array Oper} {id : Nat} {a : Act} {w : World} {Q : Exit → Act → World → Prop} {R : Act → World → Prop} (h : (Code.region id ops true).wp P (Nml R) a w) (hk : ∀ a' w', R a' w' → Q .normal a' w') : (Code.region id ops true).wp P Q a w :=
  Code.wp_mono (fun e a' w' h' => by cases e <;> first | exact hk _ _ h' | exact (h' : False).elim) h
section
variable {ops : Array Oper} {Q : Exit → Act → World → Prop} {F : List Nat} {w : World} {H H' : List As} {r : List Oper} {o : Oper} {a a' : Act}
end
end Go.Proofs.Ytlbgelbhhibikaa

set_option linter.unusedSimpArgs false
set_option linter.unusedVariables false
namespace Go.Proofs.Ytlbgelbhhibikaa
set_option maxRecDepth 100000
open Go.RowKit
/-- the lowest n bytes of a number, as a list -/
def lb (n V : Nat) : List UInt8 := (List.range n).map fun j => UInt8.ofNat (V / 2 ^ (8 * j) % 256)
theorem lb_length (n V : Nat) : (lb n V).length = n := by simp [lb]
theorem lb_get {n V j : Nat} (hj : j < n) : (lb n V)[j]? = some (UInt8.ofNat (V / 2 ^ (8 * j) % 256)) := by simp [lb, hj]
theorem lb_byt (V j : Nat) : ((UInt8.ofNat (V / 2 ^ (8 * j) % 256)).toNat : Int) = byt V j := by
  unfold byt
  rw [UInt8.toNat_ofNat', Nat.mod_mod]
theorem bs8_lb (n V : Nat) : bs8 (lb n V) = lstK .u8 n (byt V) := by
  unfold bs8 lb lstK
  rw [List.map_map]
  apply List.map_congr_left
  intro j _
  simp only [Function.comp, lb_byt]
theorem arrK_list (n : Nat) (f : Nat → Int) : (arrK .u8 n f).toList = lstK .u8 n f := rfl
/-- the number of a text's bytes, the lowest first -/
def le : List UInt8 → Nat
  | [] => 0
  | x :: r => x.toNat + 256 * le r
theorem le_lt : ∀ l : List UInt8, le l < 2 ^ (8 * l.length)
  | [] => by decide
  | x :: r => by
    have h := le_lt r
    have hx := x.toNat_lt
    show x.toNat + 256 * le r < 2 ^ (8 * (r.length + 1))
    rw [Nat.mul_add, Nat.pow_add]
    omega
theorem lb_succ (n V : Nat) : lb (n + 1) V = UInt8.ofNat (V % 256) :: lb n (V / 256) := by
  unfold lb
  rw [List.range_succ_eq_map, List.map_cons, List.map_map]
  congr 1
  · rw [Nat.mul_zero, Nat.pow_zero, Nat.div_one]
  · apply List.map_congr_left
    intro j _
    simp only [Function.comp]
    rw [Nat.div_div_eq_div_mul, Nat.succ_eq_add_one, Nat.mul_add, Nat.pow_add, Nat.mul_comm (2 ^ (8 * j))]
theorem le_lb : ∀ n V : Nat, V < 2 ^ (8 * n) → le (lb n V) = V
  | 0, V, h => by
    have : V < 1 := h
    obtain rfl : V = 0 := by omega
    rfl
  | n + 1, V, h => by
    rw [lb_succ]
    show (UInt8.ofNat (V % 256)).toNat + 256 * le (lb n (V / 256)) = V
    rw [Nat.mul_add, Nat.pow_add] at h
    rw [le_lb n (V / 256) (by omega), UInt8.toNat_ofNat']
    omega
theorem lb_le : ∀ l : List UInt8, lb l.length (le l) = l
  | [] => rfl
  | x :: r => by
    have hx : x.toNat < 256 := x.toNat_lt
    rw [List.length_cons, lb_succ]
    show UInt8.ofNat ((x.toNat + 256 * le r) % 256) :: lb r.length ((x.toNat + 256 * le r) / 256) = _
    rw [show (x.toNat + 256 * le r) % 256 = x.toNat by omega, show (x.toNat + 256 * le r) / 256 = le r by omega, lb_le r]
    congr 1
    exact UInt8.ofNat_toNat
theorem lb_le' {l : List UInt8} {n : Nat} (h : l.length = n) : lb n (le l) = l := h ▸ lb_le l
theorem sl_part {w : World} {b off n c V : Nat} {cs : Array Value} {t : TypeId} (h : Blk w b cs t) (hc : ∀ i v, (arrK .u8 n (byt V))[i]? = some v → cs[off + i]? = some v) (hn : n ≤ c) (hm : c ≤ maxLen) : Sl w (.slice (some ⟨b, off, none⟩) n c) (lb n V) :=
  sl_blk h (lb_length n V).symm hn hm fun j x hj => by
    have hj2 : j < n := by have := (List.getElem?_eq_some_iff.1 hj).1; rwa [lb_length] at this
    rw [lb_get hj2] at hj
    have := Option.some.inj hj
    subst this
    rw [lb_byt]
    exact hc j _ (arrK_get _ _ _ _ hj2)
end Go.Proofs.Ytlbgelbhhibikaa
