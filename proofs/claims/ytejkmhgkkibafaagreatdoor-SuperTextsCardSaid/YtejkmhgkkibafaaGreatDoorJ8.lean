/- Bytes of a number as a list; arrays of bytes seen as slices; parts of a sum. No conditions. Structs as lists of parts: one cell, or an array of bytes. No conditions. Rows that are read, as a thing in the list. No conditions. -/
import Derived.Test.YtejkmhgkkibafaaGreatDoorGc
import Derived.Test.YtejkmhgkkibafaaGreatDoorJ7
import Derived.Laws.Tables
set_option linter.unusedSimpArgs false
set_option linter.unusedVariables false
namespace Go.Proofs.YtejkmhgkkibafaaGreatDoor
set_option maxRecDepth 100000
open Go.RowKit
theorem bval_byt (A : Nat) : ∀ n, bval (byt A) n = A % 2 ^ (8 * n)
  | 0 => by rw [Nat.mul_zero, Nat.pow_zero, Nat.mod_one]; rfl
  | n + 1 => by
    show bval (byt A) n + (byt A n).toNat * 2 ^ (8 * n) = _
    rw [bval_byt A n, Nat.mul_add, Nat.pow_add, Nat.mod_mul, Nat.mul_comm (byt A n).toNat]
    rfl
theorem byt_inj {A B : Nat} (hA : A < 2 ^ 256) (hB : B < 2 ^ 256) (h : ∀ j, j < 32 → byt A j = byt B j) : A = B := by
  have key : ∀ n, n ≤ 32 → bval (byt A) n = bval (byt B) n := by
    intro n
    induction n with
    | zero => intro _; rfl
    | succ n ih => intro hn; show bval (byt A) n + (byt A n).toNat * _ = bval (byt B) n + (byt B n).toNat * _; rw [ih (by omega), h n (by omega)]
  have := key 32 (by omega)
  rw [bval_byt, bval_byt] at this
  rwa [show 8 * 32 = 256 by decide, Nat.mod_eq_of_lt hA, Nat.mod_eq_of_lt hB] at this
theorem eqB32 (A B : Nat) (hA : A < 2 ^ 256) (hB : B < 2 ^ 256) (w : World) : (Op.equalIn 10000 23 (.agg (arrK .u8 32 (byt A))) (.agg (arrK .u8 32 (byt B)))).run Tryz.prog w = .ok (decide (A = B)) w := by
  have h := run_equalIn_arr (P := Tryz.prog) w 9998 23 5 32 .u8 (arrK .u8 32 (byt A)) (arrK .u8 32 (byt B)) (byt A) (byt B) Tryz.underlying23 Tryz.underlying5 (by kernel_rfl)
    (fun i hi => arrK_get _ _ _ _ hi) (fun i hi => arrK_get _ _ _ _ hi)
  rw [h]
  congr 1
  rw [Bool.eq_iff_iff, eqArr_true, decide_eq_true_iff]
  exact ⟨byt_inj hA hB, fun h => by subst h; intro _ _; rfl⟩
/-- the lowest n bytes of a number, as a list -/
def lb (n V : Nat) : List UInt8 := (List.range n).map fun j => UInt8.ofNat (V / 2 ^ (8 * j) % 256)
theorem lb_length (n V : Nat) : (lb n V).length = n := by simp [lb]
theorem lb_get {n V j : Nat} (hj : j < n) : (lb n V)[j]? = some (UInt8.ofNat (V / 2 ^ (8 * j) % 256)) := by simp [lb, hj]
theorem lb_byt (V j : Nat) : ((UInt8.ofNat (V / 2 ^ (8 * j) % 256)).toNat : Int) = byt V j := by
  unfold byt
  rw [UInt8.toNat_ofNat', Nat.mod_mod]
theorem bs8_lb (n V : Nat) : bs8 (lb n V) = lstK .u8 n (byt V) := by
  unfold bs8 lb lstK
  rw [List.map_map]
  apply List.map_congr_left
  intro j _
  simp only [Function.comp, lb_byt]
theorem arrK_list (n : Nat) (f : Nat → Int) : (arrK .u8 n f).toList = lstK .u8 n f := rfl
/-- the number of a text's bytes, the lowest first -/
def le : List UInt8 → Nat
  | [] => 0
  | x :: r => x.toNat + 256 * le r
theorem le_lt : ∀ l : List UInt8, le l < 2 ^ (8 * l.length)
  | [] => by decide
  | x :: r => by
    have h := le_lt r
    have hx := x.toNat_lt
    show x.toNat + 256 * le r < 2 ^ (8 * (r.length + 1))
    rw [Nat.mul_add, Nat.pow_add]
    omega
theorem lb_succ (n V : Nat) : lb (n + 1) V = UInt8.ofNat (V % 256) :: lb n (V / 256) := by
  unfold lb
  rw [List.range_succ_eq_map, List.map_cons, List.map_map]
  congr 1
  · rw [Nat.mul_zero, Nat.pow_zero, Nat.div_one]
  · apply List.map_congr_left
    intro j _
    simp only [Function.comp]
    rw [Nat.div_div_eq_div_mul, Nat.succ_eq_add_one, Nat.mul_add, Nat.pow_add, Nat.mul_comm (2 ^ (8 * j))]
theorem lb_le : ∀ l : List UInt8, lb l.length (le l) = l
  | [] => rfl
  | x :: r => by
    have hx : x.toNat < 256 := x.toNat_lt
    rw [List.length_cons, lb_succ]
    show UInt8.ofNat ((x.toNat + 256 * le r) % 256) :: lb r.length ((x.toNat + 256 * le r) / 256) = _
    rw [show (x.toNat + 256 * le r) % 256 = x.toNat by omega, show (x.toNat + 256 * le r) / 256 = le r by omega, lb_le r]
    congr 1
    exact UInt8.ofNat_toNat
theorem lb_le' {l : List UInt8} {n : Nat} (h : l.length = n) : lb n (le l) = l := h ▸ lb_le l
theorem lb_mod (n V : Nat) : lb n (V % 2 ^ (8 * n)) = lb n V := by
  induction n generalizing V with
  | zero => rfl
  | succ n ih =>
    rw [lb_succ, lb_succ]
    have e : (2 : Nat) ^ (8 * (n + 1)) = 256 * 2 ^ (8 * n) := by rw [show 8 * (n + 1) = 8 * n + 8 by omega, Nat.pow_add]; omega
    rw [e, Nat.mod_mul_right_mod, Nat.mod_mul_right_div_self, ih]
theorem arrK_inj {n : Nat} {f g : Nat → Int} (h : (arrK .u8 n f).toList = (arrK .u8 n g).toList) : arrK .u8 n f = arrK .u8 n g := by
  rw [← Array.toArray_toList (xs := arrK .u8 n f), h, Array.toArray_toList]
theorem sl_part {w : World} {b off n c V : Nat} {cs : Array Value} {t : TypeId} (h : Blk w b cs t) (hc : ∀ i v, (arrK .u8 n (byt V))[i]? = some v → cs[off + i]? = some v) (hn : n ≤ c) (hm : c ≤ maxLen) : Sl w (.slice (some ⟨b, off, none⟩) n c) (lb n V) :=
  sl_blk h (lb_length n V).symm hn hm fun j x hj => by
    have hj2 : j < n := by have := (List.getElem?_eq_some_iff.1 hj).1; rwa [lb_length] at this
    rw [lb_get hj2] at hj
    have := Option.some.inj hj
    subst this
    rw [lb_byt]
    exact hc j _ (arrK_get _ _ _ _ hj2)
theorem ap0 {a : Array Value} : ∀ i v, a[i]? = some v → a[0 + i]? = some v := fun i v h => by rw [Nat.zero_add]; exact h
theorem pv0 {w : World} : ∀ (i : Nat) (l : List UInt8), ([] : List (List UInt8))[i]? = some l → ∃ u, ([] : List Value)[i]? = some u ∧ Sl w u l := fun i l h => by simp at h
theorem pvc {w : World} {ps : List (List UInt8)} {vs : List Value} {v : Value} {m : List UInt8} (h : Sl w v m) (k : ∀ (i : Nat) (l : List UInt8), ps[i]? = some l → ∃ u, vs[i]? = some u ∧ Sl w u l) :
    ∀ (i : Nat) (l : List UInt8), (m :: ps)[i]? = some l → ∃ u, (v :: vs)[i]? = some u ∧ Sl w u l
  | 0, l, hi => ⟨v, rfl, by
      have e : m = l := by simpa using hi
      subst e; exact h⟩
  | i + 1, l, hi => k i l (by simpa using hi)
theorem pss_blk {w : World} {g : Nat} {cs : Array Value} {ps : List (List UInt8)} {t : TypeId} (h : Blk w g cs t) (hv : ∀ (i : Nat) (l : List UInt8), ps[i]? = some l → ∃ u, cs.toList[i]? = some u ∧ Sl w u l) :
    ∀ (i : Nat) (l : List UInt8), ps[i]? = some l → ∃ ad u, some (⟨g, 0, none⟩ : Addr) = some ad ∧ w.cell? (ad.add i) = some u ∧ Sl w u l := fun i l hi => by
  obtain ⟨u, h1, h2⟩ := hv i l hi
  exact ⟨_, u, rfl, by rw [Addr.add_mid, blk_cell h, Nat.zero_add]; simpa using h1, h2⟩
theorem pss_off0 {w W : World} {A : Option Addr} {ps : List (List UInt8)} (k : Off [] w W) (h : ∀ (i : Nat) (l : List UInt8), ps[i]? = some l → ∃ ad u, A = some ad ∧ w.cell? (ad.add i) = some u ∧ Sl w u l) :
    ∀ (i : Nat) (l : List UInt8), ps[i]? = some l → ∃ ad u, A = some ad ∧ W.cell? (ad.add i) = some u ∧ Sl W u l := fun i l hi => by
  obtain ⟨ad, u, h1, h2, h3⟩ := h i l hi
  exact ⟨ad, u, h1, cell_ext h2 k.ext, h3.off k f0⟩
end Go.Proofs.YtejkmhgkkibafaaGreatDoor

set_option linter.unusedSimpArgs false
set_option linter.unusedVariables false
namespace Go.Proofs.YtejkmhgkkibafaaGreatDoor
open Go.RowKit
/-- a part of a struct: a cell, or n bytes that are the number X -/
inductive Fd where
  | c : Value → Fd
  | a : Nat → Nat → Fd
def Fd.cs : Fd → List Value
  | .c v => [v]
  | .a n X => (arrK .u8 n (byt X)).toList
def Fd.wid : Fd → Nat
  | .c _ => 1
  | .a n _ => n
theorem Fd.len (x : Fd) : x.cs.length = x.wid := by
  cases x with
  | c v => rfl
  | a n X => show (arrK .u8 n (byt X)).toList.length = n; rw [Array.length_toList, arrK_size]
def fcs : List Fd → List Value
  | [] => []
  | x :: l => x.cs ++ fcs l
def fsz : List Fd → Nat
  | [] => 0
  | x :: l => x.wid + fsz l
theorem fcs_len : ∀ l : List Fd, (fcs l).length = fsz l
  | [] => rfl
  | x :: l => by show (x.cs ++ fcs l).length = x.wid + fsz l; rw [List.length_append, Fd.len, fcs_len l]
theorem fcs_app : ∀ l m : List Fd, fcs (l ++ m) = fcs l ++ fcs m
  | [], _ => rfl
  | x :: l, m => by show x.cs ++ fcs (l ++ m) = x.cs ++ fcs l ++ fcs m; rw [fcs_app l m, List.append_assoc]
def agF (l : List Fd) : Array Value := (fcs l).toArray
theorem agF_size (l : List Fd) : (agF l).size = fsz l := by unfold agF; rw [List.size_toArray, fcs_len]
theorem agF_list (l : List Fd) : (agF l).toList = fcs l := rfl
theorem agF_a (n X : Nat) : agF [.a n X] = arrK .u8 n (byt X) := by apply Array.toList_inj.1; show (arrK .u8 n (byt X)).toList ++ [] = _; rw [List.append_nil]
/-- each cell is one -/
def fone : List Fd → Prop
  | [] => True
  | .c v :: l => v.oneCell' = true ∧ fone l
  | .a _ _ :: l => fone l
theorem fcs_one : ∀ {l : List Fd}, fone l → ∀ v ∈ fcs l, v.oneCell' = true
  | [], _, v, h => by cases h
  | .c u :: l, h, v, hv => by
    rcases List.mem_cons.1 (show v ∈ u :: fcs l from hv) with rfl | hv
    · exact h.1
    · exact fcs_one h.2 v hv
  | .a n X :: l, h, v, hv => by
    rcases List.mem_append.1 (show v ∈ (arrK .u8 n (byt X)).toList ++ fcs l from hv) with hv | hv
    · exact Array.all_eq_true_iff_forall_mem.1 (arrK_one .u8 n (byt X)) v (by simpa using hv)
    · exact fcs_one (l := l) h v hv
theorem agF_one {l : List Fd} (h : fone l) : (agF l).all (·.oneCell') = true :=
  Array.all_eq_true_iff_forall_mem.2 fun v hv => fcs_one h v (by simpa [agF] using hv)
section
variable {l m l' : List Fd} {off N X Y : Nat} {u v : Value}
theorem agF_part (i n : Nat) (hm : (l.drop i).take n = m := by exact rfl) (ho : fsz (l.take i) = off := by first | kernel_rfl | exact rfl) : ∀ j v, (agF m)[j]? = some v → (agF l)[off + j]? = some v := by
  subst hm ho
  intro j v h
  have h1 : (fcs ((l.drop i).take n))[j]? = some v := by simpa [agF] using h
  have e : fcs l = fcs (l.take i) ++ (fcs ((l.drop i).take n) ++ fcs ((l.drop i).drop n)) := by rw [← fcs_app, List.take_append_drop, ← fcs_app, List.take_append_drop]
  show (fcs l).toArray[_]? = _
  rw [List.getElem?_toArray, e, List.getElem?_append_right (by rw [fcs_len]; omega), fcs_len, Nat.add_sub_cancel_left, List.getElem?_append_left (List.getElem?_eq_some_iff.1 h1).1]
  exact h1
theorem drop_take_one {α : Type} {l : List α} {i : Nat} {x : α} (h : l[i]? = some x) : (l.drop i).take 1 = [x] := by
  obtain ⟨h1, h2⟩ := List.getElem?_eq_some_iff.1 h
  rw [List.drop_eq_getElem_cons h1, h2]; rfl
theorem agF_arr (i : Nat) (hi : l[i]? = some (.a N X) := by exact rfl) (ho : fsz (l.take i) = off := by first | kernel_rfl | exact rfl) : ∀ j v, (arrK .u8 N (byt X))[j]? = some v → (agF l)[off + j]? = some v := by
  rw [← agF_a]; exact agF_part i 1 (drop_take_one hi) ho
theorem agF_cel (i : Nat) (hi : l[i]? = some (.c v) := by exact rfl) (ho : fsz (l.take i) = off := by first | kernel_rfl | exact rfl) : (agF l)[off]? = some v := by
  have h := agF_part i 1 (drop_take_one hi) ho 0 v rfl
  exact h
theorem spl_mid : ∀ (vs old pre post : List Value), old.length = vs.length → spl (pre ++ (old ++ post)).toArray pre.length vs = (pre ++ (vs ++ post)).toArray
  | [], old, pre, post, h => by rw [List.eq_nil_of_length_eq_zero h]; rfl
  | u :: r, [], pre, post, h => by cases h
  | u :: r, o :: old, pre, post, h => by
    show spl ((pre ++ (o :: old ++ post)).toArray.setIfInBounds pre.length u) (pre.length + 1) r = _
    have e : (pre ++ (o :: old ++ post)).toArray.setIfInBounds pre.length u = ((pre ++ [u]) ++ (old ++ post)).toArray := by
      apply Array.toList_inj.1
      rw [Array.toList_setIfInBounds]
      show (pre ++ (o :: old ++ post)).set pre.length u = _
      rw [List.set_append_right _ _ (Nat.le_refl _), Nat.sub_self]; simp
    rw [e, show pre.length + 1 = (pre ++ [u]).length by simp, spl_mid r old (pre ++ [u]) post (by simpa using h)]
    simp
theorem agF_setp (i n : Nat) (hl : l.take i ++ (m ++ l.drop (i + n)) = l' := by exact rfl) (ho : fsz (l.take i) = off := by first | kernel_rfl | exact rfl) (hm : fsz m = fsz ((l.drop i).take n) := by first | kernel_rfl | exact rfl) : spl (agF l) off (agF m).toList = agF l' := by
  subst ho hl
  have e : fcs l = fcs (l.take i) ++ (fcs ((l.drop i).take n) ++ fcs ((l.drop i).drop n)) := by rw [← fcs_app, List.take_append_drop, ← fcs_app, List.take_append_drop]
  have h := spl_mid (fcs m) (fcs ((l.drop i).take n)) (fcs (l.take i)) (fcs ((l.drop i).drop n)) (by rw [fcs_len, fcs_len, hm])
  rw [← e, fcs_len] at h
  show spl (fcs l).toArray _ (fcs m) = (fcs _).toArray
  rw [h, fcs_app, fcs_app, List.drop_drop]
theorem set_eq_take {α : Type} : ∀ {l : List α} {i : Nat} {x y : α}, l[i]? = some x → l.set i y = l.take i ++ ([y] ++ l.drop (i + 1))
  | [], _, _, _, h => by simp at h
  | _ :: _, 0, _, _, _ => rfl
  | _ :: l, i + 1, _, y, h => congrArg _ (set_eq_take (l := l) (y := y) (by simpa using h))
theorem agF_seta (i : Nat) (hi : l[i]? = some (.a N X) := by exact rfl) (hl : l.set i (.a N Y) = l' := by exact rfl) (ho : fsz (l.take i) = off := by first | kernel_rfl | exact rfl) : spl (agF l) off (arrK .u8 N (byt Y)).toList = agF l' := by
  rw [← agF_a]; exact agF_setp i 1 (by rw [← hl]; exact (set_eq_take hi).symm) ho (by rw [drop_take_one hi]; rfl)
theorem agF_setc (i : Nat) (hi : l[i]? = some (.c u) := by exact rfl) (hl : l.set i (.c v) = l' := by exact rfl) (ho : fsz (l.take i) = off := by first | kernel_rfl | exact rfl) : (agF l).setIfInBounds off v = agF l' := by
  have h := agF_setp (l' := l') (m := [.c v]) i 1 (by rw [← hl]; exact (set_eq_take hi).symm) ho (by rw [drop_take_one hi]; rfl)
  exact h
end
/-! ### a struct built of parts -/
theorem fill_spl (off : Nat) : ∀ (vs : List Value) (k : Nat) (cs : Array Value), (vs.zipIdx k).foldl (fun cs (x : Value × Nat) => cs.setIfInBounds (off + x.2) x.1) cs = spl cs (off + k) vs
  | [], _, _ => rfl
  | v :: vs, k, cs => by
    show ((vs.zipIdx (k + 1)).foldl _ (cs.setIfInBounds (off + k) v)) = spl (cs.setIfInBounds (off + k) v) (off + k + 1) vs
    exact fill_spl off vs (k + 1) _
theorem fill_c {place : Nat → Option (Nat × Nat)} {l l' m : List Fd} {i off n : Nat} {v : Value} {r : List (Nat × Value)} {cs : Option (Array Value)} (h : Instr.fill place (agF l') r = cs) (hv : v.cells = agF m) (hs : spl (agF l) off (agF m).toList = agF l') (hp : place i = some (off, n)) (hn : fsz m = n) (hb : off + n ≤ fsz l) : Instr.fill place (agF l) ((i, v) :: r) = cs := by
  unfold Instr.fill
  rw [hp]
  show (if (v.cells.size ≠ n || off + v.cells.size > (agF l).size) = true then none else _) = _
  rw [hv, agF_size, agF_size, hn, if_neg (by simp; omega)]
  have h3 := fill_spl off (agF m).toList 0 (agF l)
  rw [show (agF m).zipIdx.foldl (fun cs (x : Value × Nat) => cs.setIfInBounds (off + x.2) x.1) (agF l) = ((agF m).toList.zipIdx 0).foldl (fun cs (x : Value × Nat) => cs.setIfInBounds (off + x.2) x.1) (agF l) by rw [← Array.foldl_toList, Array.toList_zipIdx], h3, Nat.add_zero, hs]
  exact h
theorem fill_n {place : Nat → Option (Nat × Nat)} {l : List Fd} : Instr.fill place (agF l) [] = some (agF l) := rfl
/-- where a struct's parts lie -/
def plc (P : Program) (t : TypeId) : Option (List (Nat × Nat)) := match P.underlying t with
  | some (.struct fs) => fs.toList.mapM fun f => (P.info? f.type).map fun i => (f.offset, i.size)
  | _ => none
def zer (P : Program) (t : TypeId) : Option (Option (Array Value)) := (P.info? t).map fun i => i.zero.map (·.cells)
theorem built_ok {P : Program} {t : TypeId} {zs l : List Fd} {pl : List (Nat × Nat)} {parts : List (Nat × Value)} (hz : zer P t = some (some (agF zs))) (hp : plc P t = some pl) (hf : Instr.fill (pl.toArray[·]?) (agF zs) parts = some (agF l)) : P.built t parts = some (agF l) := by
  unfold zer at hz
  unfold plc at hp
  unfold Program.built
  cases hi : P.info? t with
  | none => simp [hi] at hz
  | some it =>
    cases hu : P.underlying t with
    | none => simp [hu] at hp
    | some d =>
      cases d <;> try (simp [hu] at hp; done)
      rename_i fs
      cases hq : it.zero with
      | none => simp [hi, hq] at hz
      | some z =>
        have hz' : z.cells = agF zs := by simpa [hi, hq] using hz
        simp only [hu] at hp
        simp only [hq, hp, hz']
        exact hf
theorem run_bld {P : Program} {a : Act} {W : World} {o : Oper} {t : TypeId} {xs : List (Nat × Operand)} {parts : List (Nat × Value)} {zs l : List Fd} {pl : List (Nat × Nat)} (ho : o.op = .build t xs.toArray) (hx : xs.map (fun x => (x.1, a.eval x.2)) = parts) (hz : zer P t = some (some (agF zs))) (hp : plc P t = some pl) (hf : Instr.fill (pl.toArray[·]?) (agF zs) parts = some (agF l)) :
    (execOp a.eval o).run P W = .ok (.value (.agg (agF l))) W := by
  have hb := built_ok hz hp hf
  unfold execOp
  simp only [ho, List.map_toArray, Sem.run_bind, run_build W t _ _ (show P.built t (xs.map fun x => (x.1, a.eval x.2)).toArray.toList = _ by rw [hx]; exact hb), Result.andThen_ok]
  rfl
/-! ### a text copied over a part that is nought -/
theorem arrL (n X : Nat) : (arrK .u8 n (byt X)).toList = bs8 (lb n X) := by rw [arrK_list, ← bs8_lb]
section
variable {ops : Array Oper} {Q : Exit → Act → World → Prop} {F : List Nat} {w : World} {H H' : List As} {r : List Oper} {o : Oper} {a a' : Act}
end
section
variable {P : Program} {ops : Array Oper} {k : Wk} {K : Act → World → Prop} {t : Tr} {G : List As} {F : List Nat} {w : World} {H : List As} {l : List Oper} {o : Oper} {a a' : Act}
/-- a load of a part of thing i (the part's place is told behind the thing) -/
theorem Mk (i : Nat) {b j : Nat} {cs sub : Array Value} {t ty : TypeId} {x : Operand} (h : wpM P ops k F w H l a') (hi : H[i]? = some (.b b cs t) := by exact rfl) (hw : Region.wanted o (yielded ops a.tmps) = true := by exact rfl) (ho : o.op = .load ty x := by exact rfl) (hx : a.eval x = .pointer (some ⟨b, j, none⟩) := by exact rfl) (hs : ∀ i v, sub[i]? = some v → cs[j + i]? = some v)
    (hk : (P.underlying ty).map TypeDesc.isRow = some true := by as_aux_lemma => kernel_rfl) (hz : (P.info? ty).map (·.size) = some sub.size := by first | (rw [arrK_size]; kernel_rfl) | (rw [agF_size]; kernel_rfl)) (hp : a.put o.dst (.agg sub) = a' := by first | exact pl (by dsimp only [mB, mC]; first | done | exact rfl) | exact pn | exact rfl) : wpM P ops k F w H (o :: l) a := Ml i hs h hi hw ho hx hk hz hp
theorem Tk (n : Nat) {i b j : Nat} {cs sub : Array Value} {tt ty : TypeId} {x : Operand} (h : wpP P ops K F w G H t a') (hi : G[n]? = some (.b b cs tt) := by exact rfl) (hoo : ops.toList[i]? = some o := by exact rfl) (hw : Region.wanted o (yielded ops a.tmps) = true := by exact rfl) (ho : o.op = .load ty x := by exact rfl) (hx : a.eval x = .pointer (some ⟨b, j, none⟩) := by exact rfl) (hs : ∀ i v, sub[i]? = some v → cs[j + i]? = some v)
    (hk : (P.underlying ty).map TypeDesc.isRow = some true := by as_aux_lemma => kernel_rfl) (hz : (P.info? ty).map (·.size) = some sub.size := by first | (rw [arrK_size]; kernel_rfl) | (rw [agF_size]; kernel_rfl)) (hp : a.put o.dst (.agg sub) = a' := by first | exact pl (by dsimp only [mB, mC]; first | done | exact rfl) | exact pn | exact rfl) : wpP P ops K F w G H (.q i t) a := Tl n hs h hi hoo hw ho hx hk hz hp
/-- a store in a part of thing i (what it makes of the cells is told behind the thing) -/
theorem Mq {Q : Exit → Act → World → Prop} {H' : List As} (i : Nat) {g off : Nat} {cells old new : Array Value} {t ty : TypeId} {x y : Operand} (h : wpM P ops (.L Q) F w H' l a') (hi : H[i]? = some (.b g old t) := by exact rfl) (hw : Region.wanted o (yielded ops a.tmps) = true := by exact rfl) (ho : o.op = .store ty x y := by exact rfl)
    (hx : a.eval x = .pointer (some ⟨g, off, none⟩) := by exact rfl) (hy : a.eval y = .agg cells := by exact rfl) (hc : spl old off cells.toList = new) (hz : (P.info? ty).map (·.size) = some cells.size := by first | (rw [arrK_size]; kernel_rfl) | (rw [agF_size]; kernel_rfl)) (hs : off + cells.size ≤ old.size) (h1 : cells.all (·.oneCell') = true := by exact arrK_one _ _ _)
    (hH : H.set i (.b g new t) = H' := by dsimp only [sB, sC]; first | done | exact rfl) (hp : a.put o.dst undef = a' := by first | exact pl (by dsimp only [mB, mC]; first | done | exact rfl) | exact pn | exact rfl) : wpM P ops (.L Q) F w H (o :: l) a := Mr i hc h hi hw ho hx hy hz hs h1 hH hp
end
end Go.Proofs.YtejkmhgkkibafaaGreatDoor

set_option linter.unusedSimpArgs false
set_option linter.unusedVariables false
namespace Go.Proofs.YtejkmhgkkibafaaGreatDoor
open Go.RowKit
/-- the block that a row that is read looks at -/
def fbR (v : Value) (es : List (List Value)) : List Nat := match v, es with
  | .slice (some a) _ _, _ :: _ => [a.block]
  | _, _ => []
theorem RR.keep {k : Nat} {w W : World} {v : Value} {es : List (List Value)} (h : RR k w v es) (e : ∀ b ∈ fbR v es, W.heap[b]? = w.heap[b]?) : RR k W v es := by
  obtain ⟨A, c, rfl, h2, h0, h3⟩ := h
  refine ⟨A, c, rfl, h2, h0, fun j x hj => ?_⟩
  obtain ⟨g, o, h4, h5⟩ := h3 j x hj
  refine ⟨g, o, h4, fun i y hy => ?_⟩
  subst h4
  have hb : W.heap[g]? = w.heap[g]? := by
    refine e g ?_
    cases es with
    | nil => simp at hj
    | cons f fs => exact List.mem_singleton.2 rfl
  rw [← h5 i y hy]
  unfold World.cell?
  rw [hb]
theorem RR.pholds {k : Nat} {w : World} {v : Value} {es : List (List Value)} (hk : 0 < k) (hes : ∀ e ∈ es, e.length = k) (h : RR k w v es) : (As.p (fbR v es) (fun W => RR k W v es)).holds w := by
  refine ⟨h, fun b hb => ?_, fun W _ e => h.keep e⟩
  obtain ⟨A, c, rfl, h2, h0, h3⟩ := h
  cases A with
  | none => cases es <;> cases hb
  | some a =>
    cases es with
    | nil => cases hb
    | cons f fs =>
      obtain ⟨g, o, h4, h5⟩ := h3 0 f rfl
      have hf := hes f (by simp)
      have h6 := h5 0 f[0] (List.getElem?_eq_getElem (by omega))
      rw [List.mem_singleton.1 hb, Option.some.inj h4]
      have h7 := World.block_lt_of_cell? w _ h6
      exact h7
end Go.Proofs.YtejkmhgkkibafaaGreatDoor
