/- Structs as lists of parts: one cell, or an array of bytes. No conditions. Rows that are read, as a thing in the list. No conditions. Generic parts: texts in rows, facts, calls that leave new things, results in cells. No conditions. -/
import Derived.Test.YtlbgelbhhibikaaJ6
import Derived.Laws.Tables
set_option linter.unusedSimpArgs false
set_option linter.unusedVariables false
namespace Go.Proofs.Ytlbgelbhhibikaa
open Go.RowKit
/-- a part of a struct: a cell, or n bytes that are the number X -/
inductive Fd where
  | c : Value → Fd
  | a : Nat → Nat → Fd
def Fd.cs : Fd → List Value
  | .c v => [v]
  | .a n X => (arrK .u8 n (byt X)).toList
def Fd.wid : Fd → Nat
  | .c _ => 1
  | .a n _ => n
theorem Fd.len (x : Fd) : x.cs.length = x.wid := by
  cases x with
  | c v => rfl
  | a n X => show (arrK .u8 n (byt X)).toList.length = n; rw [Array.length_toList, arrK_size]
def fcs : List Fd → List Value
  | [] => []
  | x :: l => x.cs ++ fcs l
def fsz : List Fd → Nat
  | [] => 0
  | x :: l => x.wid + fsz l
theorem fcs_len : ∀ l : List Fd, (fcs l).length = fsz l
  | [] => rfl
  | x :: l => by show (x.cs ++ fcs l).length = x.wid + fsz l; rw [List.length_append, Fd.len, fcs_len l]
theorem fcs_app : ∀ l m : List Fd, fcs (l ++ m) = fcs l ++ fcs m
  | [], _ => rfl
  | x :: l, m => by show x.cs ++ fcs (l ++ m) = x.cs ++ fcs l ++ fcs m; rw [fcs_app l m, List.append_assoc]
def agF (l : List Fd) : Array Value := (fcs l).toArray
theorem agF_size (l : List Fd) : (agF l).size = fsz l := by unfold agF; rw [List.size_toArray, fcs_len]
theorem agF_list (l : List Fd) : (agF l).toList = fcs l := rfl
theorem agF_a (n X : Nat) : agF [.a n X] = arrK .u8 n (byt X) := by apply Array.toList_inj.1; show (arrK .u8 n (byt X)).toList ++ [] = _; rw [List.append_nil]
/-- each cell is one -/
def fone : List Fd → Prop
  | [] => True
  | .c v :: l => v.oneCell' = true ∧ fone l
  | .a _ _ :: l => fone l
theorem fcs_one : ∀ {l : List Fd}, fone l → ∀ v ∈ fcs l, v.oneCell' = true
  | [], _, v, h => by cases h
  | .c u :: l, h, v, hv => by
    rcases List.mem_cons.1 (show v ∈ u :: fcs l from hv) with rfl | hv
    · exact h.1
    · exact fcs_one h.2 v hv
  | .a n X :: l, h, v, hv => by
    rcases List.mem_append.1 (show v ∈ (arrK .u8 n (byt X)).toList ++ fcs l from hv) with hv | hv
    · exact Array.all_eq_true_iff_forall_mem.1 (arrK_one .u8 n (byt X)) v (by simpa using hv)
    · exact fcs_one (l := l) h v hv
theorem agF_one {l : List Fd} (h : fone l) : (agF l).all (·.oneCell') = true :=
  Array.all_eq_true_iff_forall_mem.2 fun v hv => fcs_one h v (by simpa [agF] using hv)
section
variable {l m l' : List Fd} {off N X Y : Nat} {u v : Value}
theorem agF_part (i n : Nat) (hm : (l.drop i).take n = m := by exact rfl) (ho : fsz (l.take i) = off := by first | kernel_rfl | exact rfl) : ∀ j v, (agF m)[j]? = some v → (agF l)[off + j]? = some v := by
  subst hm ho
  intro j v h
  have h1 : (fcs ((l.drop i).take n))[j]? = some v := by simpa [agF] using h
  have e : fcs l = fcs (l.take i) ++ (fcs ((l.drop i).take n) ++ fcs ((l.drop i).drop n)) := by rw [← fcs_app, List.take_append_drop, ← fcs_app, List.take_append_drop]
  show (fcs l).toArray[_]? = _
  rw [List.getElem?_toArray, e, List.getElem?_append_right (by rw [fcs_len]; omega), fcs_len, Nat.add_sub_cancel_left, List.getElem?_append_left (List.getElem?_eq_some_iff.1 h1).1]
  exact h1
theorem drop_take_one {α : Type} {l : List α} {i : Nat} {x : α} (h : l[i]? = some x) : (l.drop i).take 1 = [x] := by
  obtain ⟨h1, h2⟩ := List.getElem?_eq_some_iff.1 h
  rw [List.drop_eq_getElem_cons h1, h2]; rfl
theorem agF_arr (i : Nat) (hi : l[i]? = some (.a N X) := by exact rfl) (ho : fsz (l.take i) = off := by first | kernel_rfl | exact rfl) : ∀ j v, (arrK .u8 N (byt X))[j]? = some v → (agF l)[off + j]? = some v := by
  rw [← agF_a]; exact agF_part i 1 (drop_take_one hi) ho
theorem agF_cel (i : Nat) (hi : l[i]? = some (.c v) := by exact rfl) (ho : fsz (l.take i) = off := by first | kernel_rfl | exact rfl) : (agF l)[off]? = some v := by
  have h := agF_part i 1 (drop_take_one hi) ho 0 v rfl
  exact h
theorem spl_mid : ∀ (vs old pre post : List Value), old.length = vs.length → spl (pre ++ (old ++ post)).toArray pre.length vs = (pre ++ (vs ++ post)).toArray
  | [], old, pre, post, h => by rw [List.eq_nil_of_length_eq_zero h]; rfl
  | u :: r, [], pre, post, h => by cases h
  | u :: r, o :: old, pre, post, h => by
    show spl ((pre ++ (o :: old ++ post)).toArray.setIfInBounds pre.length u) (pre.length + 1) r = _
    have e : (pre ++ (o :: old ++ post)).toArray.setIfInBounds pre.length u = ((pre ++ [u]) ++ (old ++ post)).toArray := by
      apply Array.toList_inj.1
      rw [Array.toList_setIfInBounds]
      show (pre ++ (o :: old ++ post)).set pre.length u = _
      rw [List.set_append_right _ _ (Nat.le_refl _), Nat.sub_self]; simp
    rw [e, show pre.length + 1 = (pre ++ [u]).length by simp, spl_mid r old (pre ++ [u]) post (by simpa using h)]
    simp
theorem agF_setp (i n : Nat) (hl : l.take i ++ (m ++ l.drop (i + n)) = l' := by exact rfl) (ho : fsz (l.take i) = off := by first | kernel_rfl | exact rfl) (hm : fsz m = fsz ((l.drop i).take n) := by first | kernel_rfl | exact rfl) : spl (agF l) off (agF m).toList = agF l' := by
  subst ho hl
  have e : fcs l = fcs (l.take i) ++ (fcs ((l.drop i).take n) ++ fcs ((l.drop i).drop n)) := by rw [← fcs_app, List.take_append_drop, ← fcs_app, List.take_append_drop]
  have h := spl_mid (fcs m) (fcs ((l.drop i).take n)) (fcs (l.take i)) (fcs ((l.drop i).drop n)) (by rw [fcs_len, fcs_len, hm])
  rw [← e, fcs_len] at h
  show spl (fcs l).toArray _ (fcs m) = (fcs _).toArray
  rw [h, fcs_app, fcs_app, List.drop_drop]
theorem set_eq_take {α : Type} : ∀ {l : List α} {i : Nat} {x y : α}, l[i]? = some x → l.set i y = l.take i ++ ([y] ++ l.drop (i + 1))
  | [], _, _, _, h => by simp at h
  | _ :: _, 0, _, _, _ => rfl
  | _ :: l, i + 1, _, y, h => congrArg _ (set_eq_take (l := l) (y := y) (by simpa using h))
theorem agF_seta (i : Nat) (hi : l[i]? = some (.a N X) := by exact rfl) (hl : l.set i (.a N Y) = l' := by exact rfl) (ho : fsz (l.take i) = off := by first | kernel_rfl | exact rfl) : spl (agF l) off (arrK .u8 N (byt Y)).toList = agF l' := by
  rw [← agF_a]; exact agF_setp i 1 (by rw [← hl]; exact (set_eq_take hi).symm) ho (by rw [drop_take_one hi]; rfl)
theorem agF_setc (i : Nat) (hi : l[i]? = some (.c u) := by exact rfl) (hl : l.set i (.c v) = l' := by exact rfl) (ho : fsz (l.take i) = off := by first | kernel_rfl | exact rfl) : (agF l).setIfInBounds off v = agF l' := by
  have h := agF_setp (l' := l') (m := [.c v]) i 1 (by rw [← hl]; exact (set_eq_take hi).symm) ho (by rw [drop_take_one hi]; rfl)
  exact h
end
/-! ### a struct built of parts -/
theorem fill_spl (off : Nat) : ∀ (vs : List Value) (k : Nat) (cs : Array Value), (vs.zipIdx k).foldl (fun cs (x : Value × Nat) => cs.setIfInBounds (off + x.2) x.1) cs = spl cs (off + k) vs
  | [], _, _ => rfl
  | v :: vs, k, cs => by
    show ((vs.zipIdx (k + 1)).foldl _ (cs.setIfInBounds (off + k) v)) = spl (cs.setIfInBounds (off + k) v) (off + k + 1) vs
    exact fill_spl off vs (k + 1) _
theorem fill_c {place : Nat → Option (Nat × Nat)} {l l' m : List Fd} {i off n : Nat} {v : Value} {r : List (Nat × Value)} {cs : Option (Array Value)} (h : Instr.fill place (agF l') r = cs) (hv : v.cells = agF m) (hs : spl (agF l) off (agF m).toList = agF l') (hp : place i = some (off, n)) (hn : fsz m = n) (hb : off + n ≤ fsz l) : Instr.fill place (agF l) ((i, v) :: r) = cs := by
  unfold Instr.fill
  rw [hp]
  show (if (v.cells.size ≠ n || off + v.cells.size > (agF l).size) = true then none else _) = _
  rw [hv, agF_size, agF_size, hn, if_neg (by simp; omega)]
  have h3 := fill_spl off (agF m).toList 0 (agF l)
  rw [show (agF m).zipIdx.foldl (fun cs (x : Value × Nat) => cs.setIfInBounds (off + x.2) x.1) (agF l) = ((agF m).toList.zipIdx 0).foldl (fun cs (x : Value × Nat) => cs.setIfInBounds (off + x.2) x.1) (agF l) by rw [← Array.foldl_toList, Array.toList_zipIdx], h3, Nat.add_zero, hs]
  exact h
theorem fill_n {place : Nat → Option (Nat × Nat)} {l : List Fd} : Instr.fill place (agF l) [] = some (agF l) := rfl
/-- where a struct's parts lie -/
def plc (P : Program) (t : TypeId) : Option (List (Nat × Nat)) := match P.underlying t with
  | some (.struct fs) => fs.toList.mapM fun f => (P.info? f.type).map fun i => (f.offset, i.size)
  | _ => none
def zer (P : Program) (t : TypeId) : Option (Option (Array Value)) := (P.info? t).map fun i => i.zero.map (·.cells)
theorem built_ok {P : Program} {t : TypeId} {zs l : List Fd} {pl : List (Nat × Nat)} {parts : List (Nat × Value)} (hz : zer P t = some (some (agF zs))) (hp : plc P t = some pl) (hf : Instr.fill (pl.toArray[·]?) (agF zs) parts = some (agF l)) : P.built t parts = some (agF l) := by
  unfold zer at hz
  unfold plc at hp
  unfold Program.built
  cases hi : P.info? t with
  | none => simp [hi] at hz
  | some it =>
    cases hu : P.underlying t with
    | none => simp [hu] at hp
    | some d =>
      cases d <;> try (simp [hu] at hp; done)
      rename_i fs
      cases hq : it.zero with
      | none => simp [hi, hq] at hz
      | some z =>
        have hz' : z.cells = agF zs := by simpa [hi, hq] using hz
        simp only [hu] at hp
        simp only [hq, hp, hz']
        exact hf
theorem run_bld {P : Program} {a : Act} {W : World} {o : Oper} {t : TypeId} {xs : List (Nat × Operand)} {parts : List (Nat × Value)} {zs l : List Fd} {pl : List (Nat × Nat)} (ho : o.op = .build t xs.toArray) (hx : xs.map (fun x => (x.1, a.eval x.2)) = parts) (hz : zer P t = some (some (agF zs))) (hp : plc P t = some pl) (hf : Instr.fill (pl.toArray[·]?) (agF zs) parts = some (agF l)) :
    (execOp a.eval o).run P W = .ok (.value (.agg (agF l))) W := by
  have hb := built_ok hz hp hf
  unfold execOp
  simp only [ho, List.map_toArray, Sem.run_bind, run_build W t _ _ (show P.built t (xs.map fun x => (x.1, a.eval x.2)).toArray.toList = _ by rw [hx]; exact hb), Result.andThen_ok]
  rfl
/-! ### a text copied over a part that is nought -/
section
variable {ops : Array Oper} {Q : Exit → Act → World → Prop} {F : List Nat} {w : World} {H H' : List As} {r : List Oper} {o : Oper} {a a' : Act}
end
section
variable {P : Program} {ops : Array Oper} {k : Wk} {K : Act → World → Prop} {t : Tr} {G : List As} {F : List Nat} {w : World} {H : List As} {l : List Oper} {o : Oper} {a a' : Act}
/-- a load of a part of thing i (the part's place is told behind the thing) -/
theorem Mk (i : Nat) {b j : Nat} {cs sub : Array Value} {t ty : TypeId} {x : Operand} (h : wpM P ops k F w H l a') (hi : H[i]? = some (.b b cs t) := by exact rfl) (hw : Region.wanted o (yielded ops a.tmps) = true := by exact rfl) (ho : o.op = .load ty x := by exact rfl) (hx : a.eval x = .pointer (some ⟨b, j, none⟩) := by exact rfl) (hs : ∀ i v, sub[i]? = some v → cs[j + i]? = some v)
    (hk : (P.underlying ty).map TypeDesc.isRow = some true := by as_aux_lemma => kernel_rfl) (hz : (P.info? ty).map (·.size) = some sub.size := by first | (rw [arrK_size]; kernel_rfl) | (rw [agF_size]; kernel_rfl)) (hp : a.put o.dst (.agg sub) = a' := by first | exact pl (by dsimp only [mB, mC]; first | done | exact rfl) | exact pn | exact rfl) : wpM P ops k F w H (o :: l) a := Ml i hs h hi hw ho hx hk hz hp
theorem Tk (n : Nat) {i b j : Nat} {cs sub : Array Value} {tt ty : TypeId} {x : Operand} (h : wpP P ops K F w G H t a') (hi : G[n]? = some (.b b cs tt) := by exact rfl) (hoo : ops.toList[i]? = some o := by exact rfl) (hw : Region.wanted o (yielded ops a.tmps) = true := by exact rfl) (ho : o.op = .load ty x := by exact rfl) (hx : a.eval x = .pointer (some ⟨b, j, none⟩) := by exact rfl) (hs : ∀ i v, sub[i]? = some v → cs[j + i]? = some v)
    (hk : (P.underlying ty).map TypeDesc.isRow = some true := by as_aux_lemma => kernel_rfl) (hz : (P.info? ty).map (·.size) = some sub.size := by first | (rw [arrK_size]; kernel_rfl) | (rw [agF_size]; kernel_rfl)) (hp : a.put o.dst (.agg sub) = a' := by first | exact pl (by dsimp only [mB, mC]; first | done | exact rfl) | exact pn | exact rfl) : wpP P ops K F w G H (.q i t) a := Tl n hs h hi hoo hw ho hx hk hz hp
/-- a store in a part of thing i (what it makes of the cells is told behind the thing) -/
theorem Mq {Q : Exit → Act → World → Prop} {H' : List As} (i : Nat) {g off : Nat} {cells old new : Array Value} {t ty : TypeId} {x y : Operand} (h : wpM P ops (.L Q) F w H' l a') (hi : H[i]? = some (.b g old t) := by exact rfl) (hw : Region.wanted o (yielded ops a.tmps) = true := by exact rfl) (ho : o.op = .store ty x y := by exact rfl)
    (hx : a.eval x = .pointer (some ⟨g, off, none⟩) := by exact rfl) (hy : a.eval y = .agg cells := by exact rfl) (hc : spl old off cells.toList = new) (hz : (P.info? ty).map (·.size) = some cells.size := by first | (rw [arrK_size]; kernel_rfl) | (rw [agF_size]; kernel_rfl)) (hs : off + cells.size ≤ old.size) (h1 : cells.all (·.oneCell') = true := by exact arrK_one _ _ _)
    (hH : H.set i (.b g new t) = H' := by dsimp only [sB, sC]; first | done | exact rfl) (hp : a.put o.dst undef = a' := by first | exact pl (by dsimp only [mB, mC]; first | done | exact rfl) | exact pn | exact rfl) : wpM P ops (.L Q) F w H (o :: l) a := Mr i hc h hi hw ho hx hy hz hs h1 hH hp
end
end Go.Proofs.Ytlbgelbhhibikaa

set_option linter.unusedSimpArgs false
set_option linter.unusedVariables false
namespace Go.Proofs.Ytlbgelbhhibikaa
open Go.RowKit
/-- the block that a row that is read looks at -/
def fbR (v : Value) (es : List (List Value)) : List Nat := match v, es with
  | .slice (some a) _ _, _ :: _ => [a.block]
  | _, _ => []
theorem RR.keep {k : Nat} {w W : World} {v : Value} {es : List (List Value)} (h : RR k w v es) (e : ∀ b ∈ fbR v es, W.heap[b]? = w.heap[b]?) : RR k W v es := by
  obtain ⟨A, c, rfl, h2, h0, h3⟩ := h
  refine ⟨A, c, rfl, h2, h0, fun j x hj => ?_⟩
  obtain ⟨g, o, h4, h5⟩ := h3 j x hj
  refine ⟨g, o, h4, fun i y hy => ?_⟩
  subst h4
  have hb : W.heap[g]? = w.heap[g]? := by
    refine e g ?_
    cases es with
    | nil => simp at hj
    | cons f fs => exact List.mem_singleton.2 rfl
  rw [← h5 i y hy]
  unfold World.cell?
  rw [hb]
theorem RR.pholds {k : Nat} {w : World} {v : Value} {es : List (List Value)} (hk : 0 < k) (hes : ∀ e ∈ es, e.length = k) (h : RR k w v es) : (As.p (fbR v es) (fun W => RR k W v es)).holds w := by
  refine ⟨h, fun b hb => ?_, fun W _ e => h.keep e⟩
  obtain ⟨A, c, rfl, h2, h0, h3⟩ := h
  cases A with
  | none => cases es <;> cases hb
  | some a =>
    cases es with
    | nil => cases hb
    | cons f fs =>
      obtain ⟨g, o, h4, h5⟩ := h3 0 f rfl
      have hf := hes f (by simp)
      have h6 := h5 0 f[0] (List.getElem?_eq_getElem (by omega))
      rw [List.mem_singleton.1 hb, Option.some.inj h4]
      have h7 := World.block_lt_of_cell? w _ h6
      exact h7
end Go.Proofs.Ytlbgelbhhibikaa

set_option linter.unusedSimpArgs false
set_option linter.unusedVariables false
namespace Go.Proofs.Ytlbgelbhhibikaa
open Go.RowKit
attribute [local irreducible] wpList wpTr wpX
set_option linter.unusedSimpArgs false
abbrev b32l (x : Nat) : List Value := (arrK .u8 32 (byt x)).toList
theorem RR.opf {α : Type} {f : α → List Value} {k : Nat} {w : World} {u : Value} {ls : List α} (h : RR k w u (ls.map f)) : ∃ A c, u = .slice A ls.length c ∧ ls.length ≤ c ∧ Hid (∀ (j : Nat) (x : α), ls[j]? = some x → ∃ g o, A = some ⟨g, o, none⟩ ∧ ∀ (i : Nat) (v : Value), (f x)[i]? = some v → w.cell? ⟨g, o + j * k + i, none⟩ = some v) := by
 obtain ⟨A, c, h1, h2, _, h3⟩ := h
 rw [List.length_map] at h1 h2
 exact ⟨A, c, h1, h2, Lib.hid fun j x hj => h3 j (f x) (by rw [List.getElem?_map, hj]; rfl)⟩
theorem b32l_all {ls : List Nat} : ∀ e ∈ ls.map b32l, e.length = 32 ∧ ∀ x ∈ e, x.oneCell' = true := fun e he => by
 obtain ⟨y, _, rfl⟩ := List.mem_map.1 he
 exact ⟨by show (arrK .u8 32 (byt y)).toList.length = 32; rw [Array.length_toList, arrK_size], fun x hx => Array.all_eq_true_iff_forall_mem.1 (arrK_one .u8 32 (byt y)) x (by simpa using hx)⟩
/-- slices that read as texts -/
def TXS (W : World) (us : List Value) (ts : List (List UInt8)) : Prop := us.length = ts.length ∧ ∀ (i : Nat) (u : Value) (t : List UInt8), us[i]? = some u → ts[i]? = some t → Sl W u t
/-- the blocks that they look at -/
def txF : List Value → List (List UInt8) → List Nat
 | u :: us, t :: ts => (sb u t).toList ++ txF us ts
 | _, _ => []
theorem mem_txF {k : Nat} : ∀ {us : List Value} {ts : List (List UInt8)}, k ∈ txF us ts ↔ ∃ (i : Nat) (u : Value) (t : List UInt8), us[i]? = some u ∧ ts[i]? = some t ∧ sb u t = some k
 | [], _ => ⟨fun h => (by cases h), fun ⟨i, u, t, h, _⟩ => by simp at h⟩
 | _ :: _, [] => ⟨fun h => (by cases h), fun ⟨i, u, t, _, h, _⟩ => by simp at h⟩
 | u :: us, t :: ts => by
  show k ∈ (sb u t).toList ++ txF us ts ↔ _
  rw [List.mem_append, mem_txF]
  constructor
  ·
   rintro (h | ⟨i, v, s, h1, h2, h3⟩)
   ·
    exact ⟨0, u, t, rfl, rfl, As.mem_toList h⟩
   ·
    exact ⟨i + 1, v, s, h1, h2, h3⟩
  ·
   rintro ⟨i, v, s, h1, h2, h3⟩
   cases i with
   | zero =>
    obtain rfl : u = v := by simpa using h1
    obtain rfl : t = s := by simpa using h2
    exact .inl (by rw [h3]; simp)
   | succ i => exact .inr ⟨i, v, s, by simpa using h1, by simpa using h2, h3⟩
theorem sl_keep {w W : World} {v : Value} {l : List UInt8} (h : Sl w v l) (e : ∀ b, sb v l = some b → W.heap[b]? = w.heap[b]?) : Sl W v l := by
 obtain ⟨A, c, rfl, h1, h2, h0, h3⟩ := h
 refine ⟨A, c, rfl, h1, h2, h0, fun j x hj => ?_⟩
 obtain ⟨ad, hA, hc⟩ := h3 j x hj
 refine ⟨ad, hA, ?_⟩
 have hb : sb (.slice A l.length c) l = some ad.block := by
  unfold sb
  rw [if_neg (by rintro rfl; simp at hj), hA]; rfl
 have h4 := e _ hb
 rw [← hc]
 exact World.cell?_of_block (a := ad.add j) (w := w) (w' := W) (by rw [show (ad.add j).block = ad.block from by unfold Addr.add; split <;> rfl]; exact h4)
theorem TXS.holds {W : World} {us : List Value} {ts : List (List UInt8)} (h : TXS W us ts) : (As.p (txF us ts) (fun W => TXS W us ts)).holds W :=
 ⟨h, fun k hk => by obtain ⟨i, u, t, h1, h2, h3⟩ := mem_txF.1 hk; exact Sl.lt (h.2 i u t h1 h2) k h3,
 fun W' _ e => ⟨h.1, fun i u t h1 h2 => sl_keep (h.2 i u t h1 h2) fun b hb => e b (mem_txF.2 ⟨i, u, t, h1, h2, hb⟩)⟩⟩
namespace SH
variable {F : List Nat} {w W W' : World} {H X : List As} {i j : Nat}
/-- the things that a call has left, all of them new -/
theorem newL (h : SH F w W H) (h' : SH [] W W' X) (hf : ∀ y ∈ X, y.mv = false → ∀ k ∈ y.foot, W.heap.size ≤ k) (hx : X.all (fun y => (match y with | .t _ _ => false | _ => true) && H.all (tyOk y)) = true) : SH F w W' (X ++ H) := by
 have hn : ∀ y ∈ X, ∀ k ∈ y.foot, W.heap.size ≤ k := fun y hy k hk => by
  cases hm : y.mv with
  | false => exact hf y hy hm k hk
  | true => exact Nat.le_of_not_lt fun hlt => by have := h'.old y hy hm k hk hlt; cases this
 have h2 := h.next h'.off
 refine ⟨h2.off, fun y hy => ?_, List.pairwise_append.2 ⟨h'.ap, h2.ap, fun y hy z hz => ⟨fun hm => ?_, fun hm => ?_⟩⟩, fun y hy hm k hk hlt => ?_⟩
 ·
  rcases List.mem_append.1 hy with hy | hy
  ·
   exact h'.all y hy
  ·
   exact h2.all y hy
 ·
  have h3 := List.all_eq_true.1 hx y hy
  have h4 := As.lt (h.all z hz)
  cases z with
  | t T K =>
   have h5 := List.all_eq_true.1 (Bool.and_eq_true_iff.1 h3).2 _ hz
   simpa [tyOk, hm] using h5
  | _ => exact fun k hk hk' => Nat.not_lt.2 (hn y hy k hk) (h4 k hk')
 ·
  have h3 := List.all_eq_true.1 hx y hy
  have h4 := As.lt (h.all z hz)
  cases y with
  | t T K => simp at h3
  | _ => exact fun k hk hk' => Nat.not_lt.2 (hn _ hy k hk') (h4 k hk)
 ·
  rcases List.mem_append.1 hy with hy | hy
  ·
   have := hn y hy k hk; have := h.size; omega
  ·
   exact h2.old y hy hm k hk hlt
end SH
/-- a fact of no world -/
theorem MFact {P : Program} {ops : Array Oper} {k : Wk} {F : List Nat} {w : World} {H : List As} {l : List Oper} {a : Act} {p : Prop} (hp : ∀ W, SH F w W H → p) (h : p → wpM P ops k F w H l a) : wpM P ops k F w H l a := fun W hS => h (hp W hS) W hS
/-- a call that leaves new things -/
theorem ncallL {P : Program} {α : Type} {f : FuncId} {args : Array Value} {F : List Nat} {w W : World} {H : List As} {V : α → Value} {X : α → List As} (hS : SH F w W H) (hc : Calls P f args W fun e W' => ∃ x, e = .returned (V x) ∧ SH [] W W' (X x) ∧ ∀ y ∈ X x, y.mv = false → ∀ k ∈ y.foot, W.heap.size ≤ k) (ht : ∀ x, (X x).all (fun y => (match y with | .t _ _ => false | _ => true) && H.all (SH.tyOk y)) = true) :
  Calls P f args W fun e W' => ∃ x, e = .returned (V x) ∧ SH F w W' (X x ++ H) :=
 hc.mono fun e W' ⟨x, h1, h2, h3⟩ => ⟨x, h1, hS.newL h2 h3 (ht x)⟩
/-- a call that leaves one new thing -/
theorem ncall {P : Program} {α : Type} {f : FuncId} {args : Array Value} {F : List Nat} {w W : World} {H : List As} {V : α → Value} {X : α → As} (hS : SH F w W H) (hc : Calls P f args W fun e W' => ∃ x, e = .returned (V x) ∧ SH [] W W' [X x]) (ht : ∀ x, (X x).mv = true ∧ H.all (SH.tyOk (X x)) = true) :
  Calls P f args W fun e W' => ∃ x, e = .returned (V x) ∧ SH F w W' (X x :: H) :=
 hc.mono fun e W' ⟨x, h1, h2⟩ => ⟨x, h1, SH.frame (L := []) (L' := [X x]) (R := H) hS h2 ⟨.inr (ht x), trivial⟩⟩
theorem res_c2 {P : Program} {fn : Func} {p q : Tmp} {ty t : TypeId} {tmps : Array Value} {w : World} {g : Nat} {cs : Array Value} {v : Value} (h : fn.results = #[.cell p ty, .tmp q])
  (hp : tmps.getD p undef = .pointer (some ⟨g, 0, none⟩)) (hq : tmps.getD q undef = v) (hB : Blk w g cs t) (hk : (P.underlying ty).map TypeDesc.isRow = some true) (hi : (P.info? ty).map (·.size) = some cs.size) :
  (results fn tmps).run P w = .ok (.tuple #[.agg cs, v]) w := by
 cases hu : P.underlying ty with
 | none => simp [hu] at hk
 | some d =>
  have hd : d.isRow = true := by simpa [hu] using hk
  have hp' : tmps[p]?.getD undef = .pointer (some ⟨g, 0, none⟩) := by simpa using hp
  have hq' : tmps[q]?.getD undef = v := by simpa using hq
  simp [results, h, hp', hq', asAddr, run_loadVar_row w g t ty cs _ d hB hu (by cases d <;> simp_all [TypeDesc.isRow]) hi]
theorem Row.form {α : Type} {f : α → List Value} {ls : List α} {t : TypeId} {k : Nat} {w : World} {v : Value} (h : Row t k w v (ls.map f)) : ∃ A c, v = .slice A ls.length c := by
 obtain ⟨A, c, h1, _⟩ := RR.opf h.rr
 exact ⟨A, c, h1⟩
end Go.Proofs.Ytlbgelbhhibikaa
