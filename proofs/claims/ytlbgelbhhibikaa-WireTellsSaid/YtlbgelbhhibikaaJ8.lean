/- Structs as lists of parts: one cell, or an array of bytes. No conditions. Rows that are read, as a thing in the list. No conditions. -/
import Derived.Test.YtlbgelbhhibikaaJ7
import Derived.Laws.Tables
set_option linter.unusedSimpArgs false
set_option linter.unusedVariables false
namespace Go.Proofs.Ytlbgelbhhibikaa
open Go.RowKit
/-- a part of a struct: a cell, or n bytes that are the number X -/
inductive Fd where
  | c : Value → Fd
  | a : Nat → Nat → Fd
def Fd.cs : Fd → List Value
  | .c v => [v]
  | .a n X => (arrK .u8 n (byt X)).toList
def Fd.wid : Fd → Nat
  | .c _ => 1
  | .a n _ => n
theorem Fd.len (x : Fd) : x.cs.length = x.wid := by
  cases x with
  | c v => rfl
  | a n X => show (arrK .u8 n (byt X)).toList.length = n; rw [Array.length_toList, arrK_size]
def fcs : List Fd → List Value
  | [] => []
  | x :: l => x.cs ++ fcs l
def fsz : List Fd → Nat
  | [] => 0
  | x :: l => x.wid + fsz l
theorem fcs_len : ∀ l : List Fd, (fcs l).length = fsz l
  | [] => rfl
  | x :: l => by show (x.cs ++ fcs l).length = x.wid + fsz l; rw [List.length_append, Fd.len, fcs_len l]
theorem fcs_app : ∀ l m : List Fd, fcs (l ++ m) = fcs l ++ fcs m
  | [], _ => rfl
  | x :: l, m => by show x.cs ++ fcs (l ++ m) = x.cs ++ fcs l ++ fcs m; rw [fcs_app l m, List.append_assoc]
def agF (l : List Fd) : Array Value := (fcs l).toArray
theorem agF_size (l : List Fd) : (agF l).size = fsz l := by unfold agF; rw [List.size_toArray, fcs_len]
theorem agF_list (l : List Fd) : (agF l).toList = fcs l := rfl
theorem agF_a (n X : Nat) : agF [.a n X] = arrK .u8 n (byt X) := by apply Array.toList_inj.1; show (arrK .u8 n (byt X)).toList ++ [] = _; rw [List.append_nil]
/-- each cell is one -/
def fone : List Fd → Prop
  | [] => True
  | .c v :: l => v.oneCell' = true ∧ fone l
  | .a _ _ :: l => fone l
theorem fcs_one : ∀ {l : List Fd}, fone l → ∀ v ∈ fcs l, v.oneCell' = true
  | [], _, v, h => by cases h
  | .c u :: l, h, v, hv => by
    rcases List.mem_cons.1 (show v ∈ u :: fcs l from hv) with rfl | hv
    · exact h.1
    · exact fcs_one h.2 v hv
  | .a n X :: l, h, v, hv => by
    rcases List.mem_append.1 (show v ∈ (arrK .u8 n (byt X)).toList ++ fcs l from hv) with hv | hv
    · exact Array.all_eq_true_iff_forall_mem.1 (arrK_one .u8 n (byt X)) v (by simpa using hv)
    · exact fcs_one (l := l) h v hv
theorem agF_one {l : List Fd} (h : fone l) : (agF l).all (·.oneCell') = true :=
  Array.all_eq_true_iff_forall_mem.2 fun v hv => fcs_one h v (by simpa [agF] using hv)
section
variable {l m l' : List Fd} {off N X Y : Nat} {u v : Value}
theorem agF_part (i n : Nat) (hm : (l.drop i).take n = m := by exact rfl) (ho : fsz (l.take i) = off := by first | kernel_rfl | exact rfl) : ∀ j v, (agF m)[j]? = some v → (agF l)[off + j]? = some v := by
  subst hm ho
  intro j v h
  have h1 : (fcs ((l.drop i).take n))[j]? = some v := by simpa [agF] using h
  have e : fcs l = fcs (l.take i) ++ (fcs ((l.drop i).take n) ++ fcs ((l.drop i).drop n)) := by rw [← fcs_app, List.take_append_drop, ← fcs_app, List.take_append_drop]
  show (fcs l).toArray[_]? = _
  rw [List.getElem?_toArray, e, List.getElem?_append_right (by rw [fcs_len]; omega), fcs_len, Nat.add_sub_cancel_left, List.getElem?_append_left (List.getElem?_eq_some_iff.1 h1).1]
  exact h1
theorem drop_take_one {α : Type} {l : List α} {i : Nat} {x : α} (h : l[i]? = some x) : (l.drop i).take 1 = [x] := by
  obtain ⟨h1, h2⟩ := List.getElem?_eq_some_iff.1 h
  rw [List.drop_eq_getElem_cons h1, h2]; rfl
theorem agF_arr (i : Nat) (hi : l[i]? = some (.a N X) := by exact rfl) (ho : fsz (l.take i) = off := by first | kernel_rfl | exact rfl) : ∀ j v, (arrK .u8 N (byt X))[j]? = some v → (agF l)[off + j]? = some v := by
  rw [← agF_a]; exact agF_part i 1 (drop_take_one hi) ho
theorem agF_cel (i : Nat) (hi : l[i]? = some (.c v) := by exact rfl) (ho : fsz (l.take i) = off := by first | kernel_rfl | exact rfl) : (agF l)[off]? = some v := by
  have h := agF_part i 1 (drop_take_one hi) ho 0 v rfl
  exact h
theorem spl_mid : ∀ (vs old pre post : List Value), old.length = vs.length → spl (pre ++ (old ++ post)).toArray pre.length vs = (pre ++ (vs ++ post)).toArray
  | [], old, pre, post, h => by rw [List.eq_nil_of_length_eq_zero h]; rfl
  | u :: r, [], pre, post, h => by cases h
  | u :: r, o :: old, pre, post, h => by
    show spl ((pre ++ (o :: old ++ post)).toArray.setIfInBounds pre.length u) (pre.length + 1) r = _
    have e : (pre ++ (o :: old ++ post)).toArray.setIfInBounds pre.length u = ((pre ++ [u]) ++ (old ++ post)).toArray := by
      apply Array.toList_inj.1
      rw [Array.toList_setIfInBounds]
      show (pre ++ (o :: old ++ post)).set pre.length u = _
      rw [List.set_append_right _ _ (Nat.le_refl _), Nat.sub_self]; simp
    rw [e, show pre.length + 1 = (pre ++ [u]).length by simp, spl_mid r old (pre ++ [u]) post (by simpa using h)]
    simp
theorem agF_setp (i n : Nat) (hl : l.take i ++ (m ++ l.drop (i + n)) = l' := by exact rfl) (ho : fsz (l.take i) = off := by first | kernel_rfl | exact rfl) (hm : fsz m = fsz ((l.drop i).take n) := by first | kernel_rfl | exact rfl) : spl (agF l) off (agF m).toList = agF l' := by
  subst ho hl
  have e : fcs l = fcs (l.take i) ++ (fcs ((l.drop i).take n) ++ fcs ((l.drop i).drop n)) := by rw [← fcs_app, List.take_append_drop, ← fcs_app, List.take_append_drop]
  have h := spl_mid (fcs m) (fcs ((l.drop i).take n)) (fcs (l.take i)) (fcs ((l.drop i).drop n)) (by rw [fcs_len, fcs_len, hm])
  rw [← e, fcs_len] at h
  show spl (fcs l).toArray _ (fcs m) = (fcs _).toArray
  rw [h, fcs_app, fcs_app, List.drop_drop]
theorem set_eq_take {α : Type} : ∀ {l : List α} {i : Nat} {x y : α}, l[i]? = some x → l.set i y = l.take i ++ ([y] ++ l.drop (i + 1))
  | [], _, _, _, h => by simp at h
  | _ :: _, 0, _, _, _ => rfl
  | _ :: l, i + 1, _, y, h => congrArg _ (set_eq_take (l := l) (y := y) (by simpa using h))
theorem agF_seta (i : Nat) (hi : l[i]? = some (.a N X) := by exact rfl) (hl : l.set i (.a N Y) = l' := by exact rfl) (ho : fsz (l.take i) = off := by first | kernel_rfl | exact rfl) : spl (agF l) off (arrK .u8 N (byt Y)).toList = agF l' := by
  rw [← agF_a]; exact agF_setp i 1 (by rw [← hl]; exact (set_eq_take hi).symm) ho (by rw [drop_take_one hi]; rfl)
theorem agF_setc (i : Nat) (hi : l[i]? = some (.c u) := by exact rfl) (hl : l.set i (.c v) = l' := by exact rfl) (ho : fsz (l.take i) = off := by first | kernel_rfl | exact rfl) : (agF l).setIfInBounds off v = agF l' := by
  have h := agF_setp (l' := l') (m := [.c v]) i 1 (by rw [← hl]; exact (set_eq_take hi).symm) ho (by rw [drop_take_one hi]; rfl)
  exact h
end
/-! ### a struct built of parts -/
theorem fill_spl (off : Nat) : ∀ (vs : List Value) (k : Nat) (cs : Array Value), (vs.zipIdx k).foldl (fun cs (x : Value × Nat) => cs.setIfInBounds (off + x.2) x.1) cs = spl cs (off + k) vs
  | [], _, _ => rfl
  | v :: vs, k, cs => by
    show ((vs.zipIdx (k + 1)).foldl _ (cs.setIfInBounds (off + k) v)) = spl (cs.setIfInBounds (off + k) v) (off + k + 1) vs
    exact fill_spl off vs (k + 1) _
theorem fill_c {place : Nat → Option (Nat × Nat)} {l l' m : List Fd} {i off n : Nat} {v : Value} {r : List (Nat × Value)} {cs : Option (Array Value)} (h : Instr.fill place (agF l') r = cs) (hv : v.cells = agF m) (hs : spl (agF l) off (agF m).toList = agF l') (hp : place i = some (off, n)) (hn : fsz m = n) (hb : off + n ≤ fsz l) : Instr.fill place (agF l) ((i, v) :: r) = cs := by
  unfold Instr.fill
  rw [hp]
  show (if (v.cells.size ≠ n || off + v.cells.size > (agF l).size) = true then none else _) = _
  rw [hv, agF_size, agF_size, hn, if_neg (by simp; omega)]
  have h3 := fill_spl off (agF m).toList 0 (agF l)
  rw [show (agF m).zipIdx.foldl (fun cs (x : Value × Nat) => cs.setIfInBounds (off + x.2) x.1) (agF l) = ((agF m).toList.zipIdx 0).foldl (fun cs (x : Value × Nat) => cs.setIfInBounds (off + x.2) x.1) (agF l) by rw [← Array.foldl_toList, Array.toList_zipIdx], h3, Nat.add_zero, hs]
  exact h
theorem fill_n {place : Nat → Option (Nat × Nat)} {l : List Fd} : Instr.fill place (agF l) [] = some (agF l) := rfl
/-- where a struct's parts lie -/
def plc (P : Program) (t : TypeId) : Option (List (Nat × Nat)) := match P.underlying t with
  | some (.struct fs) => fs.toList.mapM fun f => (P.info? f.type).map fun i => (f.offset, i.size)
  | _ => none
def zer (P : Program) (t : TypeId) : Option (Option (Array Value)) := (P.info? t).map fun i => i.zero.map (·.cells)
theorem built_ok {P : Program} {t : TypeId} {zs l : List Fd} {pl : List (Nat × Nat)} {parts : List (Nat × Value)} (hz : zer P t = some (some (agF zs))) (hp : plc P t = some pl) (hf : Instr.fill (pl.toArray[·]?) (agF zs) parts = some (agF l)) : P.built t parts = some (agF l) := by
  unfold zer at hz
  unfold plc at hp
  unfold Program.built
  cases hi : P.info? t with
  | none => simp [hi] at hz
  | some it =>
    cases hu : P.underlying t with
    | none => simp [hu] at hp
    | some d =>
      cases d <;> try (simp [hu] at hp; done)
      rename_i fs
      cases hq : it.zero with
      | none => simp [hi, hq] at hz
      | some z =>
        have hz' : z.cells = agF zs := by simpa [hi, hq] using hz
        simp only [hu] at hp
        simp only [hq, hp, hz']
        exact hf
theorem run_bld {P : Program} {a : Act} {W : World} {o : Oper} {t : TypeId} {xs : List (Nat × Operand)} {parts : List (Nat × Value)} {zs l : List Fd} {pl : List (Nat × Nat)} (ho : o.op = .build t xs.toArray) (hx : xs.map (fun x => (x.1, a.eval x.2)) = parts) (hz : zer P t = some (some (agF zs))) (hp : plc P t = some pl) (hf : Instr.fill (pl.toArray[·]?) (agF zs) parts = some (agF l)) :
    (execOp a.eval o).run P W = .ok (.value (.agg (agF l))) W := by
  have hb := built_ok hz hp hf
  unfold execOp
  simp only [ho, List.map_toArray, Sem.run_bind, run_build W t _ _ (show P.built t (xs.map fun x => (x.1, a.eval x.2)).toArray.toList = _ by rw [hx]; exact hb), Result.andThen_ok]
  rfl
/-! ### a text copied over a part that is nought -/
structure CpOk (off N : Nat) (l : List UInt8) (cs new : Array Value) : Prop where
  new : (cs.toList.take off ++ (bs8 (l.take N) ++ cs.toList.drop (off + min N l.length))).toArray = new
  le : off + N ≤ cs.size
theorem lb_pad : ∀ (N : Nat) (m : List UInt8), m.length ≤ N → lb N (le m) = m ++ (lb N 0).drop m.length
  | _, [], _ => by simp [le]
  | 0, c :: m, h => by simp at h
  | N + 1, c :: m, h => by
    have hc := c.toNat_lt
    have e : le (c :: m) = c.toNat + 256 * le m := rfl
    rw [lb_succ, lb_succ, e, show (c.toNat + 256 * le m) % 256 = c.toNat by omega, show (c.toNat + 256 * le m) / 256 = le m by omega, lb_pad N m (by simpa using h)]
    simp
theorem arrL (n X : Nat) : (arrK .u8 n (byt X)).toList = bs8 (lb n X) := by rw [arrK_list, ← bs8_lb]
theorem bs8_drop (l : List UInt8) (n : Nat) : bs8 (l.drop n) = (bs8 l).drop n := by unfold bs8; rw [List.map_drop]
theorem bs8_app (l m : List UInt8) : bs8 (l ++ m) = bs8 l ++ bs8 m := by unfold bs8; rw [List.map_append]
theorem cp_list (l : List UInt8) (N : Nat) : bs8 (l.take N) ++ (arrK .u8 N (byt 0)).toList.drop (min N l.length) = (arrK .u8 N (byt (le (l.take N)))).toList := by
  rw [arrL, arrL, lb_pad N (l.take N) (by rw [List.length_take]; omega), bs8_app, bs8_drop, List.length_take]
theorem cp_mid {fs fs' : List Fd} {N X Y i off : Nat} {l : List UInt8} (hi : fs[i]? = some (.a N X)) (hf : fs.set i (.a N Y) = fs') (ho : fsz (fs.take i) = off) (hc : bs8 (l.take N) ++ (arrK .u8 N (byt X)).toList.drop (min N l.length) = (arrK .u8 N (byt Y)).toList) : CpOk off N l (agF fs) (agF fs') := by
  have e : fcs fs = fcs (fs.take i) ++ ((arrK .u8 N (byt X)).toList ++ fcs (fs.drop (i + 1))) := by
    have h1 : fs = fs.take i ++ ([.a N X] ++ fs.drop (i + 1)) := by
      have h2 := set_eq_take (y := Fd.a N X) hi
      rw [← h2]
      obtain ⟨h3, h4⟩ := List.getElem?_eq_some_iff.1 hi
      rw [← h4, List.set_getElem_self]
    conv => lhs; rw [h1, fcs_app, fcs_app]
    show _ ++ (((arrK .u8 N (byt X)).toList ++ []) ++ _) = _
    rw [List.append_nil]
  have hp : (fcs (fs.take i)).length = off := by rw [fcs_len]; exact ho
  have hz : (arrK .u8 N (byt X)).toList.length = N := by rw [Array.length_toList, arrK_size]
  have hm : min N l.length ≤ N := Nat.min_le_left _ _
  refine ⟨?_, ?_⟩
  · apply Array.toList_inj.1
    show _ = fcs fs'
    rw [← hf, set_eq_take hi, fcs_app, fcs_app, agF_list, e]
    show List.take off (_ ++ _) ++ (_ ++ List.drop _ (_ ++ _)) = _ ++ (((arrK .u8 N (byt Y)).toList ++ []) ++ _)
    rw [List.append_nil, List.take_append_of_le_length (by omega), List.take_of_length_le (by omega), List.drop_append, List.drop_eq_nil_of_le (by omega), List.nil_append, hp, Nat.add_sub_cancel_left, List.drop_append_of_le_length (by omega), ← List.append_assoc (bs8 _), hc]
  · rw [agF_size, ← fcs_len, e, List.length_append, List.length_append, hp, hz]; omega
theorem cpF (i : Nat) {fs fs' : List Fd} {N off : Nat} {l : List UInt8} (hi : fs[i]? = some (.a N 0)) (hf : fs.set i (.a N (le (l.take N))) = fs') (ho : fsz (fs.take i) = off) : CpOk off N l (agF fs) (agF fs') := cp_mid hi hf ho (cp_list l N)
section
variable {ops : Array Oper} {Q : Exit → Act → World → Prop} {F : List Nat} {w : World} {H H' : List As} {r : List Oper} {o : Oper} {a a' : Act}
theorem wpL_copyP {x y : Operand} {l : List UInt8} {g off : Nat} {cur new : Array Value} {t : TypeId} {N c : Nat} (hB : Blk w g cur t) (hok : CpOk off N l cur new) (hw : Region.wanted o (yielded ops a.tmps) = true)
    (ho : o.op = .call { callee := .builtin .copy, args := #[x, y], argTypes := #[26, 9] }) (hx : a.eval x = .slice (some ⟨g, off, none⟩) N c) (hy : a.eval y = str l)
    (h : ∀ W, Off [g] w W → Blk W g new t → wpList Try.prog ops Q r (a.put o.dst (goInt ((min N l.length : Nat) : Int))) W) : wpList Try.prog ops Q (o :: r) a w := by
  obtain ⟨hnew, hle⟩ := hok
  have hlen : (bs8 (l.take N)).length = min N l.length := by rw [bs8_length, List.length_take]
  have hst := run_storeCells_at Try.prog g off t (bs8 (l.take N)) 0 cur w hB (by rw [hlen]; omega) (bs8_one _)
  rw [Nat.add_zero, hlen, List.append_assoc, hnew] at hst
  have h4 : Blk (w.setRow g new) g new t := blk_setRow hB _
  have hsz := ba_size l
  have hex := ba_extract l 0 (min N l.length)
  have ht : l.take (min N l.length) = l.take N := by rw [List.take_eq_take_iff]; omega
  rw [List.drop_zero, ht] at hex
  refine wpL_run hw (v := goInt ((min N l.length : Nat) : Int)) (W := w.setRow g new) ?_ (h _ ⟨rfl, rfl, rfl, by simp, fun k _ hk => setRow_other w g k _ (by simpa using hk)⟩ h4)
  unfold execOp
  simp only [ho, resolve, invoke, builtin, Sem.run_bind, Sem.run_pure, Result.andThen_ok, List.map_toArray, List.map_cons, List.map_nil, hx, hy]
  cases hq : Try.prog.info? 5 with
  | none => have h0 := u8_size; rw [hq] at h0; cases h0
  | some i =>
    have hi : i.size = 1 := by have h0 := u8_size; rw [hq] at h0; simpa using h0
    have hst' : (storeCells ⟨g, off, none⟩ ((l.take N).map fun b => Value.int .u8 (b.toNat : Int))).run Try.prog w = .ok () (w.setRow g new) := hst
    simp [Builtin.copy_, run_underlying Try.underlying26, Builtin.lenOf, Builtin.firstCells, sizeOf, typeInfo, hq, hi, str, hsz, hex, Sem.run_bind, bs8, ← List.map_take]
    rw [show List.take (l.length.min N) l = List.take N l by rw [List.take_eq_take_iff]; show min (min l.length N) l.length = _; omega, hst', show l.length.min N = min N l.length from Nat.min_comm _ _]
    simp
/-- a text copied over a part of thing i -/
theorem MCq (i : Nat) {x y : Operand} {l : List UInt8} {b off N c : Nat} {cs new : Array Value} {t : TypeId} (hok : CpOk off N l cs new) (h : wpM Try.prog ops (.L Q) F w H' r a') (hi : H[i]? = some (.b b cs t) := by exact rfl) (hw : Region.wanted o (yielded ops a.tmps) = true := by exact rfl)
    (ho : o.op = .call { callee := .builtin .copy, args := #[x, y], argTypes := #[26, 9] } := by exact rfl) (hx : a.eval x = .slice (some ⟨b, off, none⟩) N c := by exact rfl) (hy : a.eval y = str l := by exact rfl)
    (hH : H.set i (.b b new t) = H' := by dsimp only [sB, sC]; first | done | exact rfl) (hp : a.put o.dst (goInt ((min N l.length : Nat) : Int)) = a' := by first | exact pl (by dsimp only [mB, mC]; first | done | exact rfl) | exact pn | exact rfl) : wpM Try.prog ops (.L Q) F w H (o :: r) a := by
  subst hp hH
  intro W hS
  exact wpL_copyP (hS.blk hi) hok hw ho hx hy fun W' hO hB => h W' (hS.setb hi hO hB)
end
section
variable {P : Program} {ops : Array Oper} {k : Wk} {K : Act → World → Prop} {t : Tr} {G : List As} {F : List Nat} {w : World} {H : List As} {l : List Oper} {o : Oper} {a a' : Act}
/-- a load of a part of thing i (the part's place is told behind the thing) -/
theorem Mk (i : Nat) {b j : Nat} {cs sub : Array Value} {t ty : TypeId} {x : Operand} (h : wpM P ops k F w H l a') (hi : H[i]? = some (.b b cs t) := by exact rfl) (hw : Region.wanted o (yielded ops a.tmps) = true := by exact rfl) (ho : o.op = .load ty x := by exact rfl) (hx : a.eval x = .pointer (some ⟨b, j, none⟩) := by exact rfl) (hs : ∀ i v, sub[i]? = some v → cs[j + i]? = some v)
    (hk : (P.underlying ty).map TypeDesc.isRow = some true := by as_aux_lemma => kernel_rfl) (hz : (P.info? ty).map (·.size) = some sub.size := by first | (rw [arrK_size]; kernel_rfl) | (rw [agF_size]; kernel_rfl)) (hp : a.put o.dst (.agg sub) = a' := by first | exact pl (by dsimp only [mB, mC]; first | done | exact rfl) | exact pn | exact rfl) : wpM P ops k F w H (o :: l) a := Ml i hs h hi hw ho hx hk hz hp
theorem Tk (n : Nat) {i b j : Nat} {cs sub : Array Value} {tt ty : TypeId} {x : Operand} (h : wpP P ops K F w G H t a') (hi : G[n]? = some (.b b cs tt) := by exact rfl) (hoo : ops.toList[i]? = some o := by exact rfl) (hw : Region.wanted o (yielded ops a.tmps) = true := by exact rfl) (ho : o.op = .load ty x := by exact rfl) (hx : a.eval x = .pointer (some ⟨b, j, none⟩) := by exact rfl) (hs : ∀ i v, sub[i]? = some v → cs[j + i]? = some v)
    (hk : (P.underlying ty).map TypeDesc.isRow = some true := by as_aux_lemma => kernel_rfl) (hz : (P.info? ty).map (·.size) = some sub.size := by first | (rw [arrK_size]; kernel_rfl) | (rw [agF_size]; kernel_rfl)) (hp : a.put o.dst (.agg sub) = a' := by first | exact pl (by dsimp only [mB, mC]; first | done | exact rfl) | exact pn | exact rfl) : wpP P ops K F w G H (.q i t) a := Tl n hs h hi hoo hw ho hx hk hz hp
/-- a store in a part of thing i (what it makes of the cells is told behind the thing) -/
theorem Mq {Q : Exit → Act → World → Prop} {H' : List As} (i : Nat) {g off : Nat} {cells old new : Array Value} {t ty : TypeId} {x y : Operand} (h : wpM P ops (.L Q) F w H' l a') (hi : H[i]? = some (.b g old t) := by exact rfl) (hw : Region.wanted o (yielded ops a.tmps) = true := by exact rfl) (ho : o.op = .store ty x y := by exact rfl)
    (hx : a.eval x = .pointer (some ⟨g, off, none⟩) := by exact rfl) (hy : a.eval y = .agg cells := by exact rfl) (hc : spl old off cells.toList = new) (hz : (P.info? ty).map (·.size) = some cells.size := by first | (rw [arrK_size]; kernel_rfl) | (rw [agF_size]; kernel_rfl)) (hs : off + cells.size ≤ old.size) (h1 : cells.all (·.oneCell') = true := by exact arrK_one _ _ _)
    (hH : H.set i (.b g new t) = H' := by dsimp only [sB, sC]; first | done | exact rfl) (hp : a.put o.dst undef = a' := by first | exact pl (by dsimp only [mB, mC]; first | done | exact rfl) | exact pn | exact rfl) : wpM P ops (.L Q) F w H (o :: l) a := Mr i hc h hi hw ho hx hy hz hs h1 hH hp
end
end Go.Proofs.Ytlbgelbhhibikaa

set_option linter.unusedSimpArgs false
set_option linter.unusedVariables false
namespace Go.Proofs.Ytlbgelbhhibikaa
open Go.RowKit
/-- the block that a row that is read looks at -/
def fbR (v : Value) (es : List (List Value)) : List Nat := match v, es with
  | .slice (some a) _ _, _ :: _ => [a.block]
  | _, _ => []
theorem RR.keep {k : Nat} {w W : World} {v : Value} {es : List (List Value)} (h : RR k w v es) (e : ∀ b ∈ fbR v es, W.heap[b]? = w.heap[b]?) : RR k W v es := by
  obtain ⟨A, c, rfl, h2, h0, h3⟩ := h
  refine ⟨A, c, rfl, h2, h0, fun j x hj => ?_⟩
  obtain ⟨g, o, h4, h5⟩ := h3 j x hj
  refine ⟨g, o, h4, fun i y hy => ?_⟩
  subst h4
  have hb : W.heap[g]? = w.heap[g]? := by
    refine e g ?_
    cases es with
    | nil => simp at hj
    | cons f fs => exact List.mem_singleton.2 rfl
  rw [← h5 i y hy]
  unfold World.cell?
  rw [hb]
theorem RR.pholds {k : Nat} {w : World} {v : Value} {es : List (List Value)} (hk : 0 < k) (hes : ∀ e ∈ es, e.length = k) (h : RR k w v es) : (As.p (fbR v es) (fun W => RR k W v es)).holds w := by
  refine ⟨h, fun b hb => ?_, fun W _ e => h.keep e⟩
  obtain ⟨A, c, rfl, h2, h0, h3⟩ := h
  cases A with
  | none => cases es <;> cases hb
  | some a =>
    cases es with
    | nil => cases hb
    | cons f fs =>
      obtain ⟨g, o, h4, h5⟩ := h3 0 f rfl
      have hf := hes f (by simp)
      have h6 := h5 0 f[0] (List.getElem?_eq_getElem (by omega))
      rw [List.mem_singleton.1 hb, Option.some.inj h4]
      have h7 := World.block_lt_of_cell? w _ h6
      exact h7
end Go.Proofs.Ytlbgelbhhibikaa
