/- A text copied over an array; a cell stored in an element of a row. No conditions. Bytes of a number as a list; arrays of bytes seen as slices; parts of a sum. No conditions. Structs as lists of parts: one cell, or an array of bytes. No conditions. Rows that are read, as a thing in the list. No conditions. Generic parts: texts in rows, facts, calls that leave new things, results in cells. No conditions. -/
import Derived.Test.YtejkmhgkkibafaaGreatDoorJ5
import Derived.Laws.CopyRow
import Derived.Test.YtejkmhgkkibafaaGreatDoorGc
import Derived.Laws.Tables
set_option linter.unusedSimpArgs false
set_option linter.unusedVariables false
namespace Go.Proofs.YtejkmhgkkibafaaGreatDoor
section
open Go.RowKit
attribute [local irreducible] wpList J0k wpX
theorem RJ {P : Program} {ops : Array Oper} {id : Nat} {a : Act} {w : World} {Q : Exit → Act → World → Prop} {R : Act → World → Prop} (h : (Code.region id ops true).wp P (Nml R) a w) (hk : ∀ a' w', R a' w' → Q .normal a' w') : (Code.region id ops true).wp P Q a w :=
  Code.wp_mono (fun e a' w' h' => by cases e <;> first | exact hk _ _ h' | exact (h' : False).elim) h
section
variable {ops : Array Oper} {Q : Exit → Act → World → Prop} {F : List Nat} {w : World} {H H' : List As} {r : List Oper} {o : Oper} {a a' : Act}
theorem Z4x {x y : Operand} {l : List UInt8} {g : Nat} {cur : Array Value} {t : TypeId} {n c : Nat} (hB : Blk w g cur t) (hcur : cur.size = l.length) (hn : n = l.length) (hw : Region.wanted o (yielded ops a.tmps) = true)
    (ho : o.op = .call { callee := .builtin .copy, args := #[x, y], argTypes := #[22, 9] }) (hx : a.eval x = .slice (some ⟨g, 0, none⟩) n c) (hy : a.eval y = str l)
    (h : ∀ W, Off [g] w W → Blk W g (bs8 l).toArray t → wpList Tryz.prog ops Q r (a.put o.dst (goInt l.length)) W) : wpList Tryz.prog ops Q (o :: r) a w := by
  subst hn
  have hst := run_storeCells_at Tryz.prog g 0 t (bs8 l) 0 cur w hB (by rw [K7, hcur]; omega) (Q0y l)
  have e : (cur.toList.take (0 + 0) ++ bs8 l ++ cur.toList.drop (0 + 0 + (bs8 l).length)) = bs8 l := by
    rw [List.drop_eq_nil_of_le (by rw [K7, Array.length_toList]; omega)]; simp
  rw [e] at hst
  have h4 : Blk (w.setRow g (bs8 l).toArray) g (bs8 l).toArray t := Y8 hB _
  have hsz := J6s l
  have hex := Q3w l 0 l.length
  rw [List.take_of_length_le (Nat.le_refl _), List.drop_zero] at hex
  refine J6r hw (v := goInt l.length) (W := w.setRow g (bs8 l).toArray) ?_ (h _ ⟨rfl, rfl, rfl, by simp, fun k _ hk => setRow_other w g k _ (by simpa using hk)⟩ h4)
  unfold execOp
  simp only [ho, resolve, invoke, builtin, Sem.run_bind, Sem.run_pure, Result.andThen_ok, List.map_toArray, List.map_cons, List.map_nil, hx, hy]
  cases hq : Tryz.prog.info? 5 with
  | none => have h0 := J5x; rw [hq] at h0; cases h0
  | some i =>
    have hi : i.size = 1 := by have h0 := J5x; rw [hq] at h0; simpa using h0
    have hmin : Nat.min l.length l.length = l.length := Nat.min_self _
    have hst' : (storeCells ⟨g, 0, none⟩ (l.map fun b => Value.int .u8 (b.toNat : Int))).run Tryz.prog w = .ok () (w.setRow g (l.map fun b => Value.int .u8 (b.toNat : Int)).toArray) := hst
    simp [Builtin.copy_, run_underlying Tryz.underlying22, Builtin.lenOf, Builtin.firstCells, sizeOf, typeInfo, hq, hi, str, hsz, hex, hmin, Sem.run_bind, bs8]
    rw [List.take_of_length_le (by simp), hst']
    rfl
theorem MCp (i : Nat) {x y : Operand} {l : List UInt8} {b n c : Nat} {cs new : Array Value} {t : TypeId} (hl : l.length = n) (hcs : cs.size = n) (hnew : (bs8 l).toArray = new) (h : wpM Tryz.prog ops (.L Q) F w H' r a') (hi : H[i]? = some (.b b cs t) := by exact rfl) (hw : Region.wanted o (yielded ops a.tmps) = true := by exact rfl)
    (ho : o.op = .call { callee := .builtin .copy, args := #[x, y], argTypes := #[22, 9] } := by exact rfl) (hx : a.eval x = .slice (some ⟨b, 0, none⟩) n c := by exact rfl) (hy : a.eval y = str l := by exact rfl)
    (hH : H.set i (.b b new t) = H' := by dsimp only [sB, sC]; first | done | exact rfl) (hp : a.put o.dst (goInt n) = a' := by first | exact pl (by dsimp only [mB, mC]; first | done | exact rfl) | exact pn | exact rfl) : wpM Tryz.prog ops (.L Q) F w H (o :: r) a := by
  subst hp hH hnew hl
  intro W hS
  exact Z4x (hS.blk hi) hcs rfl hw ho hx hy fun W' hO hB => h W' (hS.setb hi hO hB)
end
end

section
set_option maxRecDepth 100000
open Go.RowKit
theorem J5a (A : Nat) : ∀ n, J0x (Q5 A) n = A % 2 ^ (8 * n)
  | 0 => by rw [Nat.mul_zero, Nat.pow_zero, Nat.mod_one]; rfl
  | n + 1 => by
    show J0x (Q5 A) n + (Q5 A n).toNat * 2 ^ (8 * n) = _
    rw [J5a A n, Nat.mul_add, Nat.pow_add, Nat.mod_mul, Nat.mul_comm (Q5 A n).toNat]
    rfl
theorem Q15 {A B : Nat} (hA : A < 2 ^ 256) (hB : B < 2 ^ 256) (h : ∀ j, j < 32 → Q5 A j = Q5 B j) : A = B := by
  have key : ∀ n, n ≤ 32 → J0x (Q5 A) n = J0x (Q5 B) n := by
    intro n
    induction n with
    | zero => intro _; rfl
    | succ n ih => intro hn; show J0x (Q5 A) n + (Q5 A n).toNat * _ = J0x (Q5 B) n + (Q5 B n).toNat * _; rw [ih (by omega), h n (by omega)]
  have := key 32 (by omega)
  rw [J5a, J5a] at this
  rwa [show 8 * 32 = 256 by decide, Nat.mod_eq_of_lt hA, Nat.mod_eq_of_lt hB] at this
theorem Z2p (A B : Nat) (hA : A < 2 ^ 256) (hB : B < 2 ^ 256) (w : World) : (Op.equalIn 10000 23 (.agg (J0 .u8 32 (Q5 A))) (.agg (J0 .u8 32 (Q5 B)))).run Tryz.prog w = .ok (decide (A = B)) w := by
  have h := J2o (P := Tryz.prog) w 9998 23 5 32 .u8 (J0 .u8 32 (Q5 A)) (J0 .u8 32 (Q5 B)) (Q5 A) (Q5 B) Tryz.underlying23 Tryz.underlying5 (by kernel_rfl)
    (fun i hi => J6 _ _ _ _ hi) (fun i hi => J6 _ _ _ _ hi)
  rw [h]
  congr 1
  rw [Bool.eq_iff_iff, J66, decide_eq_true_iff]
  exact ⟨Q15 hA hB, fun h => by subst h; intro _ _; rfl⟩
def lb (n V : Nat) : List UInt8 := (List.range n).map fun j => UInt8.ofNat (V / 2 ^ (8 * j) % 256)
theorem Q2 (n V : Nat) : (lb n V).length = n := by simp [lb]
theorem Z7i {n V j : Nat} (hj : j < n) : (lb n V)[j]? = some (UInt8.ofNat (V / 2 ^ (8 * j) % 256)) := by simp [lb, hj]
theorem Z0x (V j : Nat) : ((UInt8.ofNat (V / 2 ^ (8 * j) % 256)).toNat : Int) = Q5 V j := by
  unfold Q5
  rw [UInt8.toNat_ofNat', Nat.mod_mod]
theorem Q3o (n V : Nat) : bs8 (lb n V) = Q2w .u8 n (Q5 V) := by
  unfold bs8 lb Q2w
  rw [List.map_map]
  apply List.map_congr_left
  intro j _
  simp only [Function.comp, Z0x]
theorem J4u (n : Nat) (f : Nat → Int) : (J0 .u8 n f).toList = Q2w .u8 n f := rfl
def le : List UInt8 → Nat
  | [] => 0
  | x :: r => x.toNat + 256 * le r
theorem Z2c : ∀ l : List UInt8, le l < 2 ^ (8 * l.length)
  | [] => by decide
  | x :: r => by
    have h := Z2c r
    have hx := x.toNat_lt
    show x.toNat + 256 * le r < 2 ^ (8 * (r.length + 1))
    rw [Nat.mul_add, Nat.pow_add]
    omega
theorem Q16 (n V : Nat) : lb (n + 1) V = UInt8.ofNat (V % 256) :: lb n (V / 256) := by
  unfold lb
  rw [List.range_succ_eq_map, List.map_cons, List.map_map]
  congr 1
  · rw [Nat.mul_zero, Nat.pow_zero, Nat.div_one]
  apply List.map_congr_left
  intro j _
  simp only [Function.comp]
  rw [Nat.div_div_eq_div_mul, Nat.succ_eq_add_one, Nat.mul_add, Nat.pow_add, Nat.mul_comm (2 ^ (8 * j))]
theorem Y54 : ∀ l : List UInt8, lb l.length (le l) = l
  | [] => rfl
  | x :: r => by
    have hx : x.toNat < 256 := x.toNat_lt
    rw [List.length_cons, Q16]
    show UInt8.ofNat ((x.toNat + 256 * le r) % 256) :: lb r.length ((x.toNat + 256 * le r) / 256) = _
    rw [show (x.toNat + 256 * le r) % 256 = x.toNat by omega, show (x.toNat + 256 * le r) / 256 = le r by omega, Y54 r]
    congr 1
    exact UInt8.ofNat_toNat
theorem Z0u {l : List UInt8} {n : Nat} (h : l.length = n) : lb n (le l) = l := h ▸ Y54 l
theorem Y7g (n V : Nat) : lb n (V % 2 ^ (8 * n)) = lb n V := by
  induction n generalizing V with
  | zero => rfl
  | succ n ih =>
    rw [Q16, Q16]
    have e : (2 : Nat) ^ (8 * (n + 1)) = 256 * 2 ^ (8 * n) := by rw [show 8 * (n + 1) = 8 * n + 8 by omega, Nat.pow_add]; omega
    rw [e, Nat.mod_mul_right_mod, Nat.mod_mul_right_div_self, ih]
theorem Q8u {n : Nat} {f g : Nat → Int} (h : (J0 .u8 n f).toList = (J0 .u8 n g).toList) : J0 .u8 n f = J0 .u8 n g := by
  rw [← Array.toArray_toList (xs := J0 .u8 n f), h, Array.toArray_toList]
theorem J03 {w : World} {b off n c V : Nat} {cs : Array Value} {t : TypeId} (h : Blk w b cs t) (hc : ∀ i v, (J0 .u8 n (Q5 V))[i]? = some v → cs[off + i]? = some v) (hn : n ≤ c) (hm : c ≤ maxLen) : Sl w (.slice (some ⟨b, off, none⟩) n c) (lb n V) :=
  Z74 h (Q2 n V).symm hn hm fun j x hj => by
    have hj2 : j < n := by have := (List.getElem?_eq_some_iff.1 hj).1; rwa [Q2] at this
    rw [Z7i hj2] at hj
    have := Option.some.inj hj
    subst this
    rw [Z0x]
    exact hc j _ (J6 _ _ _ _ hj2)
theorem ap0 {a : Array Value} : ∀ i v, a[i]? = some v → a[0 + i]? = some v := fun i v h => by rw [Nat.zero_add]; exact h
theorem pv0 {w : World} : ∀ (i : Nat) (l : List UInt8), ([] : List (List UInt8))[i]? = some l → ∃ u, ([] : List Value)[i]? = some u ∧ Sl w u l := fun i l h => by simp at h
theorem pvc {w : World} {ps : List (List UInt8)} {vs : List Value} {v : Value} {m : List UInt8} (h : Sl w v m) (k : ∀ (i : Nat) (l : List UInt8), ps[i]? = some l → ∃ u, vs[i]? = some u ∧ Sl w u l) :
    ∀ (i : Nat) (l : List UInt8), (m :: ps)[i]? = some l → ∃ u, (v :: vs)[i]? = some u ∧ Sl w u l
  | 0, l, hi => ⟨v, rfl, by
      have e : m = l := by simpa using hi
      subst e; exact h⟩
  | i + 1, l, hi => k i l (by simpa using hi)
theorem J10 {w : World} {g : Nat} {cs : Array Value} {ps : List (List UInt8)} {t : TypeId} (h : Blk w g cs t) (hv : ∀ (i : Nat) (l : List UInt8), ps[i]? = some l → ∃ u, cs.toList[i]? = some u ∧ Sl w u l) :
    ∀ (i : Nat) (l : List UInt8), ps[i]? = some l → ∃ ad u, some (⟨g, 0, none⟩ : Addr) = some ad ∧ w.cell? (ad.add i) = some u ∧ Sl w u l := fun i l hi => by
  obtain ⟨u, h1, h2⟩ := hv i l hi
  exact ⟨_, u, rfl, by rw [Addr.add_mid, Q6 h, Nat.zero_add]; simpa using h1, h2⟩
theorem Z7j {w W : World} {A : Option Addr} {ps : List (List UInt8)} (k : Off [] w W) (h : ∀ (i : Nat) (l : List UInt8), ps[i]? = some l → ∃ ad u, A = some ad ∧ w.cell? (ad.add i) = some u ∧ Sl w u l) :
    ∀ (i : Nat) (l : List UInt8), ps[i]? = some l → ∃ ad u, A = some ad ∧ W.cell? (ad.add i) = some u ∧ Sl W u l := fun i l hi => by
  obtain ⟨ad, u, h1, h2, h3⟩ := h i l hi
  exact ⟨ad, u, h1, K5 h2 k.ext, h3.off k f0⟩
end

section
open Go.RowKit
inductive Fd where
  | c : Value → Fd
  | a : Nat → Nat → Fd
def Fd.cs : Fd → List Value
  | .c v => [v]
  | .a n X => (J0 .u8 n (Q5 X)).toList
def Fd.wid : Fd → Nat
  | .c _ => 1
  | .a n _ => n
theorem Fd.len (x : Fd) : x.cs.length = x.wid := by
  cases x with
  | c v => rfl
  | a n X => show (J0 .u8 n (Q5 X)).toList.length = n; rw [Array.length_toList, J2]
def fcs : List Fd → List Value
  | [] => []
  | x :: l => x.cs ++ fcs l
def fsz : List Fd → Nat
  | [] => 0
  | x :: l => x.wid + fsz l
theorem J54 : ∀ l : List Fd, (fcs l).length = fsz l
  | [] => rfl
  | x :: l => by show (x.cs ++ fcs l).length = x.wid + fsz l; rw [List.length_append, Fd.len, J54 l]
theorem J4f : ∀ l m : List Fd, fcs (l ++ m) = fcs l ++ fcs m
  | [], _ => rfl
  | x :: l, m => by show x.cs ++ fcs (l ++ m) = x.cs ++ fcs l ++ fcs m; rw [J4f l m, List.append_assoc]
def agF (l : List Fd) : Array Value := (fcs l).toArray
theorem Q3 (l : List Fd) : (agF l).size = fsz l := by unfold agF; rw [List.size_toArray, J54]
theorem Q42 (l : List Fd) : (agF l).toList = fcs l := rfl
theorem Q99 (n X : Nat) : agF [.a n X] = J0 .u8 n (Q5 X) := by apply Array.toList_inj.1; show (J0 .u8 n (Q5 X)).toList ++ [] = _; rw [List.append_nil]
def Y29 : List Fd → Prop
  | [] => True
  | .c v :: l => v.oneCell' = true ∧ Y29 l
  | .a _ _ :: l => Y29 l
theorem Q7b : ∀ {l : List Fd}, Y29 l → ∀ v ∈ fcs l, v.oneCell' = true
  | [], _, v, h => by cases h
  | .c u :: l, h, v, hv => by
    rcases List.mem_cons.1 (show v ∈ u :: fcs l from hv) with rfl | hv
    · exact h.1
    · exact Q7b h.2 v hv
  | .a n X :: l, h, v, hv => by
    rcases List.mem_append.1 (show v ∈ (J0 .u8 n (Q5 X)).toList ++ fcs l from hv) with hv | hv
    · exact Array.all_eq_true_iff_forall_mem.1 (K3 .u8 n (Q5 X)) v (by simpa using hv)
    · exact Q7b (l := l) h v hv
theorem J27 {l : List Fd} (h : Y29 l) : (agF l).all (·.oneCell') = true :=
  Array.all_eq_true_iff_forall_mem.2 fun v hv => Q7b h v (by simpa [agF] using hv)
section
variable {l m l' : List Fd} {off N X Y : Nat} {u v : Value}
theorem Q9a (i n : Nat) (hm : (l.drop i).take n = m := by exact rfl) (ho : fsz (l.take i) = off := by first | kernel_rfl | exact rfl) : ∀ j v, (agF m)[j]? = some v → (agF l)[off + j]? = some v := by
  subst hm ho
  intro j v h
  have h1 : (fcs ((l.drop i).take n))[j]? = some v := by simpa [agF] using h
  have e : fcs l = fcs (l.take i) ++ (fcs ((l.drop i).take n) ++ fcs ((l.drop i).drop n)) := by rw [← J4f, List.take_append_drop, ← J4f, List.take_append_drop]
  show (fcs l).toArray[_]? = _
  rw [List.getElem?_toArray, e, List.getElem?_append_right (by rw [J54]; omega), J54, Nat.add_sub_cancel_left, List.getElem?_append_left (List.getElem?_eq_some_iff.1 h1).1]
  exact h1
theorem J55 {α : Type} {l : List α} {i : Nat} {x : α} (h : l[i]? = some x) : (l.drop i).take 1 = [x] := by
  obtain ⟨h1, h2⟩ := List.getElem?_eq_some_iff.1 h
  rw [List.drop_eq_getElem_cons h1, h2]; rfl
theorem J3x (i : Nat) (hi : l[i]? = some (.a N X) := by exact rfl) (ho : fsz (l.take i) = off := by first | kernel_rfl | exact rfl) : ∀ j v, (J0 .u8 N (Q5 X))[j]? = some v → (agF l)[off + j]? = some v := by
  rw [← Q99]; exact Q9a i 1 (J55 hi) ho
theorem J00 (i : Nat) (hi : l[i]? = some (.c v) := by exact rfl) (ho : fsz (l.take i) = off := by first | kernel_rfl | exact rfl) : (agF l)[off]? = some v := by
  have h := Q9a i 1 (J55 hi) ho 0 v rfl
  exact h
theorem Z2r : ∀ (vs old pre post : List Value), old.length = vs.length → spl (pre ++ (old ++ post)).toArray pre.length vs = (pre ++ (vs ++ post)).toArray
  | [], old, pre, post, h => by rw [List.eq_nil_of_length_eq_zero h]; rfl
  | u :: r, [], pre, post, h => by cases h
  | u :: r, o :: old, pre, post, h => by
    show spl ((pre ++ (o :: old ++ post)).toArray.setIfInBounds pre.length u) (pre.length + 1) r = _
    have e : (pre ++ (o :: old ++ post)).toArray.setIfInBounds pre.length u = ((pre ++ [u]) ++ (old ++ post)).toArray := by
      apply Array.toList_inj.1
      rw [Array.toList_setIfInBounds]
      show (pre ++ (o :: old ++ post)).set pre.length u = _
      rw [List.set_append_right _ _ (Nat.le_refl _), Nat.sub_self]; simp
    rw [e, show pre.length + 1 = (pre ++ [u]).length by simp, Z2r r old (pre ++ [u]) post (by simpa using h)]
    simp
theorem J32 (i n : Nat) (hl : l.take i ++ (m ++ l.drop (i + n)) = l' := by exact rfl) (ho : fsz (l.take i) = off := by first | kernel_rfl | exact rfl) (hm : fsz m = fsz ((l.drop i).take n) := by first | kernel_rfl | exact rfl) : spl (agF l) off (agF m).toList = agF l' := by
  subst ho hl
  have e : fcs l = fcs (l.take i) ++ (fcs ((l.drop i).take n) ++ fcs ((l.drop i).drop n)) := by rw [← J4f, List.take_append_drop, ← J4f, List.take_append_drop]
  have h := Z2r (fcs m) (fcs ((l.drop i).take n)) (fcs (l.take i)) (fcs ((l.drop i).drop n)) (by rw [J54, J54, hm])
  rw [← e, J54] at h
  show spl (fcs l).toArray _ (fcs m) = (fcs _).toArray
  rw [h, J4f, J4f, List.drop_drop]
theorem J5b {α : Type} : ∀ {l : List α} {i : Nat} {x y : α}, l[i]? = some x → l.set i y = l.take i ++ ([y] ++ l.drop (i + 1))
  | [], _, _, _, h => by simp at h
  | _ :: _, 0, _, _, _ => rfl
  | _ :: l, i + 1, _, y, h => congrArg _ (J5b (l := l) (y := y) (by simpa using h))
theorem Q9b (i : Nat) (hi : l[i]? = some (.a N X) := by exact rfl) (hl : l.set i (.a N Y) = l' := by exact rfl) (ho : fsz (l.take i) = off := by first | kernel_rfl | exact rfl) : spl (agF l) off (J0 .u8 N (Q5 Y)).toList = agF l' := by
  rw [← Q99]; exact J32 i 1 (by rw [← hl]; exact (J5b hi).symm) ho (by rw [J55 hi]; rfl)
theorem J4g (i : Nat) (hi : l[i]? = some (.c u) := by exact rfl) (hl : l.set i (.c v) = l' := by exact rfl) (ho : fsz (l.take i) = off := by first | kernel_rfl | exact rfl) : (agF l).setIfInBounds off v = agF l' := by
  have h := J32 (l' := l') (m := [.c v]) i 1 (by rw [← hl]; exact (J5b hi).symm) ho (by rw [J55 hi]; rfl)
  exact h
end
/-! ### a struct built of parts -/
theorem Q9c (off : Nat) : ∀ (vs : List Value) (k : Nat) (cs : Array Value), (vs.zipIdx k).foldl (fun cs (x : Value × Nat) => cs.setIfInBounds (off + x.2) x.1) cs = spl cs (off + k) vs
  | [], _, _ => rfl
  | v :: vs, k, cs => by
    show ((vs.zipIdx (k + 1)).foldl _ (cs.setIfInBounds (off + k) v)) = spl (cs.setIfInBounds (off + k) v) (off + k + 1) vs
    exact Q9c off vs (k + 1) _
theorem J8a {place : Nat → Option (Nat × Nat)} {l l' m : List Fd} {i off n : Nat} {v : Value} {r : List (Nat × Value)} {cs : Option (Array Value)} (h : Instr.fill place (agF l') r = cs) (hv : v.cells = agF m) (hs : spl (agF l) off (agF m).toList = agF l') (hp : place i = some (off, n)) (hn : fsz m = n) (hb : off + n ≤ fsz l) : Instr.fill place (agF l) ((i, v) :: r) = cs := by
  unfold Instr.fill
  rw [hp]
  show (if (v.cells.size ≠ n || off + v.cells.size > (agF l).size) = true then none else _) = _
  rw [hv, Q3, Q3, hn, if_neg (by simp; omega)]
  have h3 := Q9c off (agF m).toList 0 (agF l)
  rw [show (agF m).zipIdx.foldl (fun cs (x : Value × Nat) => cs.setIfInBounds (off + x.2) x.1) (agF l) = ((agF m).toList.zipIdx 0).foldl (fun cs (x : Value × Nat) => cs.setIfInBounds (off + x.2) x.1) (agF l) by rw [← Array.foldl_toList, Array.toList_zipIdx], h3, Nat.add_zero, hs]
  exact h
theorem Q7c {place : Nat → Option (Nat × Nat)} {l : List Fd} : Instr.fill place (agF l) [] = some (agF l) := rfl
def plc (P : Program) (t : TypeId) : Option (List (Nat × Nat)) := match P.underlying t with
  | some (.struct fs) => fs.toList.mapM fun f => (P.info? f.type).map fun i => (f.offset, i.size)
  | _ => none
def zer (P : Program) (t : TypeId) : Option (Option (Array Value)) := (P.info? t).map fun i => i.zero.map (·.cells)
theorem Z7n {P : Program} {t : TypeId} {zs l : List Fd} {pl : List (Nat × Nat)} {parts : List (Nat × Value)} (hz : zer P t = some (some (agF zs))) (hp : plc P t = some pl) (hf : Instr.fill (pl.toArray[·]?) (agF zs) parts = some (agF l)) : P.built t parts = some (agF l) := by
  unfold zer at hz
  unfold plc at hp
  unfold Program.built
  cases hi : P.info? t with
  | none => simp [hi] at hz
  | some it =>
    cases hu : P.underlying t with
    | none => simp [hu] at hp
    | some d =>
      cases d <;> try (simp [hu] at hp; done)
      rename_i fs
      cases hq : it.zero with
      | none => simp [hi, hq] at hz
      | some z =>
        have hz' : z.cells = agF zs := by simpa [hi, hq] using hz
        simp only [hu] at hp
        simp only [hq, hp, hz']
        exact hf
theorem Q3a {P : Program} {a : Act} {W : World} {o : Oper} {t : TypeId} {xs : List (Nat × Operand)} {parts : List (Nat × Value)} {zs l : List Fd} {pl : List (Nat × Nat)} (ho : o.op = .build t xs.toArray) (hx : xs.map (fun x => (x.1, a.eval x.2)) = parts) (hz : zer P t = some (some (agF zs))) (hp : plc P t = some pl) (hf : Instr.fill (pl.toArray[·]?) (agF zs) parts = some (agF l)) :
    (execOp a.eval o).run P W = .ok (.value (.agg (agF l))) W := by
  have hb := Z7n hz hp hf
  unfold execOp
  simp only [ho, List.map_toArray, Sem.run_bind, run_build W t _ _ (show P.built t (xs.map fun x => (x.1, a.eval x.2)).toArray.toList = _ by rw [hx]; exact hb), Result.andThen_ok]
  rfl
/-! ### a text copied over a part that is nought -/
structure CpOk (off N : Nat) (l : List UInt8) (cs new : Array Value) : Prop where
  new : (cs.toList.take off ++ (bs8 (l.take N) ++ cs.toList.drop (off + min N l.length))).toArray = new
  le : off + N ≤ cs.size
theorem V1r (n X : Nat) : (J0 .u8 n (Q5 X)).toList = bs8 (lb n X) := by rw [J4u, ← Q3o]
theorem Y7k {fs fs' : List Fd} {N X Y i off : Nat} {l : List UInt8} (hi : fs[i]? = some (.a N X)) (hf : fs.set i (.a N Y) = fs') (ho : fsz (fs.take i) = off) (hc : bs8 (l.take N) ++ (J0 .u8 N (Q5 X)).toList.drop (min N l.length) = (J0 .u8 N (Q5 Y)).toList) : CpOk off N l (agF fs) (agF fs') := by
  have e : fcs fs = fcs (fs.take i) ++ ((J0 .u8 N (Q5 X)).toList ++ fcs (fs.drop (i + 1))) := by
    have h1 : fs = fs.take i ++ ([.a N X] ++ fs.drop (i + 1)) := by
      have h2 := J5b (y := Fd.a N X) hi
      rw [← h2]
      obtain ⟨h3, h4⟩ := List.getElem?_eq_some_iff.1 hi
      rw [← h4, List.set_getElem_self]
    conv => lhs; rw [h1, J4f, J4f]
    show _ ++ (((J0 .u8 N (Q5 X)).toList ++ []) ++ _) = _
    rw [List.append_nil]
  have hp : (fcs (fs.take i)).length = off := by rw [J54]; exact ho
  have hz : (J0 .u8 N (Q5 X)).toList.length = N := by rw [Array.length_toList, J2]
  have hm : min N l.length ≤ N := Nat.min_le_left _ _
  refine ⟨?_, ?_⟩
  · apply Array.toList_inj.1
    show _ = fcs fs'
    rw [← hf, J5b hi, J4f, J4f, Q42, e]
    show List.take off (_ ++ _) ++ (_ ++ List.drop _ (_ ++ _)) = _ ++ (((J0 .u8 N (Q5 Y)).toList ++ []) ++ _)
    rw [List.append_nil, List.take_append_of_le_length (by omega), List.take_of_length_le (by omega), List.drop_append, List.drop_eq_nil_of_le (by omega), List.nil_append, hp, Nat.add_sub_cancel_left, List.drop_append_of_le_length (by omega), ← List.append_assoc (bs8 _), hc]
  rw [Q3, ← J54, e, List.length_append, List.length_append, hp, hz]; omega
theorem V1s (i : Nat) {fs fs' : List Fd} {N X Y off : Nat} (hi : fs[i]? = some (.a N X)) (hf : fs.set i (.a N Y) = fs') (ho : fsz (fs.take i) = off) : CpOk off N (lb N Y) (agF fs) (agF fs') :=
  Y7k hi hf ho (by rw [Q2, Nat.min_self, List.drop_eq_nil_of_le (by rw [Array.length_toList, J2]; omega), List.append_nil, List.take_of_length_le (by rw [Q2]; omega), V1r])
section
variable {ops : Array Oper} {Q : Exit → Act → World → Prop} {F : List Nat} {w : World} {H H' : List As} {r : List Oper} {o : Oper} {a a' : Act}
theorem Z4y {x y : Operand} {l : List UInt8} {g off : Nat} {cur new : Array Value} {t : TypeId} {N c : Nat} (hB : Blk w g cur t) (hok : CpOk off N l cur new) (hw : Region.wanted o (yielded ops a.tmps) = true)
    (ho : o.op = .call { callee := .builtin .copy, args := #[x, y], argTypes := #[22, 9] }) (hx : a.eval x = .slice (some ⟨g, off, none⟩) N c) (hy : a.eval y = str l)
    (h : ∀ W, Off [g] w W → Blk W g new t → wpList Tryz.prog ops Q r (a.put o.dst (goInt ((min N l.length : Nat) : Int))) W) : wpList Tryz.prog ops Q (o :: r) a w := by
  obtain ⟨hnew, hle⟩ := hok
  have hlen : (bs8 (l.take N)).length = min N l.length := by rw [K7, List.length_take]
  have hst := run_storeCells_at Tryz.prog g off t (bs8 (l.take N)) 0 cur w hB (by rw [hlen]; omega) (Q0y _)
  rw [Nat.add_zero, hlen, List.append_assoc, hnew] at hst
  have h4 : Blk (w.setRow g new) g new t := Y8 hB _
  have hsz := J6s l
  have hex := Q3w l 0 (min N l.length)
  have ht : l.take (min N l.length) = l.take N := by rw [List.take_eq_take_iff]; omega
  rw [List.drop_zero, ht] at hex
  refine J6r hw (v := goInt ((min N l.length : Nat) : Int)) (W := w.setRow g new) ?_ (h _ ⟨rfl, rfl, rfl, by simp, fun k _ hk => setRow_other w g k _ (by simpa using hk)⟩ h4)
  unfold execOp
  simp only [ho, resolve, invoke, builtin, Sem.run_bind, Sem.run_pure, Result.andThen_ok, List.map_toArray, List.map_cons, List.map_nil, hx, hy]
  cases hq : Tryz.prog.info? 5 with
  | none => have h0 := J5x; rw [hq] at h0; cases h0
  | some i =>
    have hi : i.size = 1 := by have h0 := J5x; rw [hq] at h0; simpa using h0
    have hst' : (storeCells ⟨g, off, none⟩ ((l.take N).map fun b => Value.int .u8 (b.toNat : Int))).run Tryz.prog w = .ok () (w.setRow g new) := hst
    simp [Builtin.copy_, run_underlying Tryz.underlying22, Builtin.lenOf, Builtin.firstCells, sizeOf, typeInfo, hq, hi, str, hsz, hex, Sem.run_bind, bs8, ← List.map_take]
    rw [show List.take (l.length.min N) l = List.take N l by rw [List.take_eq_take_iff]; show min (min l.length N) l.length = _; omega, hst', show l.length.min N = min N l.length from Nat.min_comm _ _]
    simp
theorem MCq (i : Nat) {x y : Operand} {l : List UInt8} {b off N c : Nat} {cs new : Array Value} {t : TypeId} (hok : CpOk off N l cs new) (h : wpM Tryz.prog ops (.L Q) F w H' r a') (hi : H[i]? = some (.b b cs t) := by exact rfl) (hw : Region.wanted o (yielded ops a.tmps) = true := by exact rfl)
    (ho : o.op = .call { callee := .builtin .copy, args := #[x, y], argTypes := #[22, 9] } := by exact rfl) (hx : a.eval x = .slice (some ⟨b, off, none⟩) N c := by exact rfl) (hy : a.eval y = str l := by exact rfl)
    (hH : H.set i (.b b new t) = H' := by dsimp only [sB, sC]; first | done | exact rfl) (hp : a.put o.dst (goInt ((min N l.length : Nat) : Int)) = a' := by first | exact pl (by dsimp only [mB, mC]; first | done | exact rfl) | exact pn | exact rfl) : wpM Tryz.prog ops (.L Q) F w H (o :: r) a := by
  subst hp hH
  intro W hS
  exact Z4y (hS.blk hi) hok hw ho hx hy fun W' hO hB => h W' (hS.setb hi hO hB)
end
section
variable {P : Program} {ops : Array Oper} {k : Wk} {K : Act → World → Prop} {t : Tr} {G : List As} {F : List Nat} {w : World} {H : List As} {l : List Oper} {o : Oper} {a a' : Act}
theorem Mk (i : Nat) {b j : Nat} {cs sub : Array Value} {t ty : TypeId} {x : Operand} (h : wpM P ops k F w H l a') (hi : H[i]? = some (.b b cs t) := by exact rfl) (hw : Region.wanted o (yielded ops a.tmps) = true := by exact rfl) (ho : o.op = .load ty x := by exact rfl) (hx : a.eval x = .pointer (some ⟨b, j, none⟩) := by exact rfl) (hs : ∀ i v, sub[i]? = some v → cs[j + i]? = some v)
    (hk : (P.underlying ty).map TypeDesc.isRow = some true := by as_aux_lemma => kernel_rfl) (hz : (P.info? ty).map (·.size) = some sub.size := by first | (rw [J2]; kernel_rfl) | (rw [Q3]; kernel_rfl)) (hp : a.put o.dst (.agg sub) = a' := by first | exact pl (by dsimp only [mB, mC]; first | done | exact rfl) | exact pn | exact rfl) : wpM P ops k F w H (o :: l) a := Ml i hs h hi hw ho hx hk hz hp
theorem Tk (n : Nat) {i b j : Nat} {cs sub : Array Value} {tt ty : TypeId} {x : Operand} (h : wpP P ops K F w G H t a') (hi : G[n]? = some (.b b cs tt) := by exact rfl) (hoo : ops.toList[i]? = some o := by exact rfl) (hw : Region.wanted o (yielded ops a.tmps) = true := by exact rfl) (ho : o.op = .load ty x := by exact rfl) (hx : a.eval x = .pointer (some ⟨b, j, none⟩) := by exact rfl) (hs : ∀ i v, sub[i]? = some v → cs[j + i]? = some v)
    (hk : (P.underlying ty).map TypeDesc.isRow = some true := by as_aux_lemma => kernel_rfl) (hz : (P.info? ty).map (·.size) = some sub.size := by first | (rw [J2]; kernel_rfl) | (rw [Q3]; kernel_rfl)) (hp : a.put o.dst (.agg sub) = a' := by first | exact pl (by dsimp only [mB, mC]; first | done | exact rfl) | exact pn | exact rfl) : wpP P ops K F w G H (.q i t) a := Tl n hs h hi hoo hw ho hx hk hz hp
theorem Mq {Q : Exit → Act → World → Prop} {H' : List As} (i : Nat) {g off : Nat} {cells old new : Array Value} {t ty : TypeId} {x y : Operand} (h : wpM P ops (.L Q) F w H' l a') (hi : H[i]? = some (.b g old t) := by exact rfl) (hw : Region.wanted o (yielded ops a.tmps) = true := by exact rfl) (ho : o.op = .store ty x y := by exact rfl)
    (hx : a.eval x = .pointer (some ⟨g, off, none⟩) := by exact rfl) (hy : a.eval y = .agg cells := by exact rfl) (hc : spl old off cells.toList = new) (hz : (P.info? ty).map (·.size) = some cells.size := by first | (rw [J2]; kernel_rfl) | (rw [Q3]; kernel_rfl)) (hs : off + cells.size ≤ old.size) (h1 : cells.all (·.oneCell') = true := by exact K3 _ _ _)
    (hH : H.set i (.b g new t) = H' := by dsimp only [sB, sC]; first | done | exact rfl) (hp : a.put o.dst undef = a' := by first | exact pl (by dsimp only [mB, mC]; first | done | exact rfl) | exact pn | exact rfl) : wpM P ops (.L Q) F w H (o :: l) a := Mr i hc h hi hw ho hx hy hz hs h1 hH hp
end
end

section
open Go.RowKit
def fbR (v : Value) (es : List (List Value)) : List Nat := match v, es with
  | .slice (some a) _ _, _ :: _ => [a.block]
  | _, _ => []
theorem RR.keep {k : Nat} {w W : World} {v : Value} {es : List (List Value)} (h : RR k w v es) (e : ∀ b ∈ fbR v es, W.heap[b]? = w.heap[b]?) : RR k W v es := by
  obtain ⟨A, c, rfl, h2, h0, h3⟩ := h
  refine ⟨A, c, rfl, h2, h0, fun j x hj => ?_⟩
  obtain ⟨g, o, h4, h5⟩ := h3 j x hj
  refine ⟨g, o, h4, fun i y hy => ?_⟩
  subst h4
  have hb : W.heap[g]? = w.heap[g]? := by
    refine e g ?_
    cases es with
    | nil => simp at hj
    | cons f fs => exact List.mem_singleton.2 rfl
  rw [← h5 i y hy]
  unfold World.cell?
  rw [hb]
theorem RR.pholds {k : Nat} {w : World} {v : Value} {es : List (List Value)} (hk : 0 < k) (hes : ∀ e ∈ es, e.length = k) (h : RR k w v es) : (As.p (fbR v es) (fun W => RR k W v es)).holds w := by
  refine ⟨h, fun b hb => ?_, fun W _ e => h.keep e⟩
  obtain ⟨A, c, rfl, h2, h0, h3⟩ := h
  cases A with
  | none => cases es <;> cases hb
  | some a =>
    cases es with
    | nil => cases hb
    | cons f fs =>
      obtain ⟨g, o, h4, h5⟩ := h3 0 f rfl
      have hf := hes f (by simp)
      have h6 := h5 0 f[0] (List.getElem?_eq_getElem (by omega))
      rw [List.mem_singleton.1 hb, Option.some.inj h4]
      have h7 := World.block_lt_of_cell? w _ h6
      exact h7
theorem Z2q {t : TypeId} {k : Nat} {w : World} {v : Value} {es : List (List Value)} (h : Row t k w v es) : ∀ b ∈ fbR v es, b ∈ v.ownBlock.toList := fun b hb => by
  rcases h.1.2 with ⟨rfl, _⟩ | ⟨g, cap, cur, rfl, _⟩
  · cases es <;> cases hb
  · cases es with
    | nil => cases hb
    | cons f fs => exact hb
theorem SH.r2p {F : List Nat} {w W : World} {H : List As} {t : TypeId} {k i : Nat} {v : Value} {es : List (List Value)} (h : SH F w W H) (hi : H[i]? = some (.r t k v es)) (hk : 0 < k) : SH F w W (H.set i (.p (fbR v es) (fun W => RR k W v es))) :=
  h.set hi rfl (Off.refl [] W) (fun _ hk => by cases hk) ((h.row hi).rr.pholds hk (h.row hi).2) (fun b hb _ => Z2q (h.row hi) b hb) (.inl rfl) (fun _ _ e => by cases e)
end

section
open Go.RowKit
attribute [local irreducible] wpList J0k wpX
abbrev J1e (x : Nat) : List Value := (J0 .u8 32 (Q5 x)).toList
theorem RR.opf {α : Type} {f : α → List Value} {k : Nat} {w : World} {u : Value} {ls : List α} (h : RR k w u (ls.map f)) : ∃ A c, u = .slice A ls.length c ∧ ls.length ≤ c ∧ Hid (∀ (j : Nat) (x : α), ls[j]? = some x → ∃ g o, A = some ⟨g, o, none⟩ ∧ ∀ (i : Nat) (v : Value), (f x)[i]? = some v → w.cell? ⟨g, o + j * k + i, none⟩ = some v) := by
 obtain ⟨A, c, h1, h2, _, h3⟩ := h
 rw [List.length_map] at h1 h2
 exact ⟨A, c, h1, h2, Lib.hid fun j x hj => h3 j (f x) (by rw [List.getElem?_map, hj]; rfl)⟩
def TXS (W : World) (us : List Value) (ts : List (List UInt8)) : Prop := us.length = ts.length ∧ ∀ (i : Nat) (u : Value) (t : List UInt8), us[i]? = some u → ts[i]? = some t → Sl W u t
def txF : List Value → List (List UInt8) → List Nat
 | u :: us, t :: ts => (sb u t).toList ++ txF us ts
 | _, _ => []
theorem mem_txF {k : Nat} : ∀ {us : List Value} {ts : List (List UInt8)}, k ∈ txF us ts ↔ ∃ (i : Nat) (u : Value) (t : List UInt8), us[i]? = some u ∧ ts[i]? = some t ∧ sb u t = some k
 | [], _ => ⟨fun h => (by cases h), fun ⟨i, u, t, h, _⟩ => by simp at h⟩
 | _ :: _, [] => ⟨fun h => (by cases h), fun ⟨i, u, t, _, h, _⟩ => by simp at h⟩
 | u :: us, t :: ts => by
  show k ∈ (sb u t).toList ++ txF us ts ↔ _
  rw [List.mem_append, mem_txF]
  constructor
  ·
   rintro (h | ⟨i, v, s, h1, h2, h3⟩)
   ·
    exact ⟨0, u, t, rfl, rfl, As.mem_toList h⟩
   ·
    exact ⟨i + 1, v, s, h1, h2, h3⟩
  ·
   rintro ⟨i, v, s, h1, h2, h3⟩
   cases i with
   | zero =>
    obtain rfl : u = v := by simpa using h1
    obtain rfl : t = s := by simpa using h2
    exact .inl (by rw [h3]; simp)
   | succ i => exact .inr ⟨i, v, s, by simpa using h1, by simpa using h2, h3⟩
theorem Z2s {w W : World} {v : Value} {l : List UInt8} (h : Sl w v l) (e : ∀ b, sb v l = some b → W.heap[b]? = w.heap[b]?) : Sl W v l := by
 obtain ⟨A, c, rfl, h1, h2, h0, h3⟩ := h
 refine ⟨A, c, rfl, h1, h2, h0, fun j x hj => ?_⟩
 obtain ⟨ad, hA, hc⟩ := h3 j x hj
 refine ⟨ad, hA, ?_⟩
 have hb : sb (.slice A l.length c) l = some ad.block := by
  unfold sb
  rw [if_neg (by rintro rfl; simp at hj), hA]; rfl
 have h4 := e _ hb
 rw [← hc]
 exact World.cell?_of_block (a := ad.add j) (w := w) (w' := W) (by rw [show (ad.add j).block = ad.block from by unfold Addr.add; split <;> rfl]; exact h4)
theorem TXS.holds {W : World} {us : List Value} {ts : List (List UInt8)} (h : TXS W us ts) : (As.p (txF us ts) (fun W => TXS W us ts)).holds W :=
 ⟨h, fun k hk => by obtain ⟨i, u, t, h1, h2, h3⟩ := mem_txF.1 hk; exact Sl.lt (h.2 i u t h1 h2) k h3,
 fun W' _ e => ⟨h.1, fun i u t h1 h2 => Z2s (h.2 i u t h1 h2) fun b hb => e b (mem_txF.2 ⟨i, u, t, h1, h2, hb⟩)⟩⟩
theorem Y2a (W : World) : TXS W [] [] := ⟨rfl, fun i u t h => by simp at h⟩
theorem Z7o {W : World} {us : List Value} {ts : List (List UInt8)} {u : Value} {t : List UInt8} (h : TXS W us ts) (hu : Sl W u t) : TXS W (us ++ [u]) (ts ++ [t]) := by
 refine ⟨by rw [List.length_append, List.length_append, h.1]; rfl, fun i v s h1 h2 => ?_⟩
 rcases Nat.lt_or_ge i us.length with hi | hi
 ·
  rw [List.getElem?_append_left hi] at h1
  rw [List.getElem?_append_left (by rw [← h.1]; exact hi)] at h2
  exact h.2 i v s h1 h2
 rw [List.getElem?_append_right hi] at h1
 rw [List.getElem?_append_right (by rw [← h.1]; exact hi), ← h.1] at h2
 rcases Nat.eq_zero_or_pos (i - us.length) with h0 | h0
 ·
  rw [h0] at h1 h2
  obtain rfl : u = v := by simpa using h1
  obtain rfl : t = s := by simpa using h2
  exact hu
 rw [List.getElem?_eq_none (by simp; omega)] at h1; cases h1
theorem Q9d {us : List Value} {ts : List (List UInt8)} {u : Value} {t : List UInt8} {k : Nat} (hl : us.length = ts.length) (h : k ∈ txF (us ++ [u]) (ts ++ [t])) : k ∈ txF us ts ∨ sb u t = some k := by
 obtain ⟨i, v, s, h1, h2, h3⟩ := mem_txF.1 h
 rcases Nat.lt_or_ge i us.length with hi | hi
 ·
  rw [List.getElem?_append_left hi] at h1
  rw [List.getElem?_append_left (by rw [← hl]; exact hi)] at h2
  exact .inl (mem_txF.2 ⟨i, v, s, h1, h2, h3⟩)
 rw [List.getElem?_append_right hi] at h1
 rw [List.getElem?_append_right (by rw [← hl]; exact hi), ← hl] at h2
 rcases Nat.eq_zero_or_pos (i - us.length) with h0 | h0
 ·
  rw [h0] at h1 h2
  obtain rfl : u = v := by simpa using h1
  obtain rfl : t = s := by simpa using h2
  exact .inr h3
 rw [List.getElem?_eq_none (by simp; omega)] at h1; cases h1
namespace SH
variable {F : List Nat} {w W W' : World} {H X : List As} {i j : Nat}
theorem addp {f : List Nat} {K : World → Prop} (h : SH F w W H) (hz : (As.p f K).holds W) (hf : ∀ k ∈ f, ∃ (i : Nat) (x : As), H[i]? = some x ∧ x.mv = false ∧ k ∈ x.foot) : SH F w W (.p f K :: H) := by
 refine ⟨h.off, fun y hy => ?_, List.pairwise_cons.2 ⟨fun y hy => ⟨fun h => by (cases h), fun hm k hk hk' => ?_⟩, h.ap⟩, fun y hy hm k hk hlt => ?_⟩
 ·
  rcases List.mem_cons.1 hy with rfl | hy
  ·
   exact hz
  exact h.all y hy
 ·
  obtain ⟨i, x, hi, hx, hkx⟩ := hf k hk'
  obtain ⟨j, hj, e⟩ := List.mem_iff_getElem.1 hy
  have hj' : H[j]? = some y := by rw [List.getElem?_eq_getElem hj, e]
  have hn : j ≠ i := fun e => by subst e; rw [hi] at hj'; obtain rfl := Option.some.inj hj'; rw [hx] at hm; cases hm
  have h1 := (h.ap2 hj' hi hn).1 hm
  cases x with
  | t T K => cases hkx
  | _ => exact h1 k hk hkx
 rcases List.mem_cons.1 hy with rfl | hy
 ·
  cases hm
 exact h.old y hy hm k hk hlt
theorem txs {us : List Value} {ts : List (List UInt8)} {u : Value} {t : List UInt8} (h : SH F w W H) (hi : H[i]? = some (.p (txF us ts) (fun W => TXS W us ts))) (hj : H[j]? = some (.s u t)) : SH F w W (.p (txF (us ++ [u]) (ts ++ [t])) (fun W => TXS W (us ++ [u]) (ts ++ [t])) :: H) :=
 h.addp (Z7o (h.pp hi) (h.sl hj)).holds fun k hk => by
  rcases Q9d (h.pp hi).1 hk with hk | hk
  ·
   exact ⟨i, _, hi, rfl, hk⟩
  ·
   exact ⟨j, _, hj, rfl, by show k ∈ (sb u t).toList; rw [hk]; simp⟩
theorem txn (h : SH F w W H) : SH F w W (.p (txF [] []) (fun W => TXS W [] []) :: H) := h.addp (Y2a W).holds fun k hk => by cases hk
theorem fresh {u : Value} {t : List UInt8} (h : SH [] w W H) (hj : H[j]? = some (.o u t)) {us : List Value} {ts : List (List UInt8)} (hl : us.length = ts.length) (hf : ∀ k ∈ txF us ts, w.heap.size ≤ k) : ∀ k ∈ txF (us ++ [u]) (ts ++ [t]), w.heap.size ≤ k := fun k hk => by
 rcases Q9d hl hk with hk | hk
 ·
  exact hf k hk
 ·
  refine Nat.le_of_not_lt fun hlt => ?_
  have := h.old _ (mem hj) rfl k (by show k ∈ (Value.ownBlock u).toList; rw [Q0i hk]; simp) hlt
  cases this
theorem newL (h : SH F w W H) (h' : SH [] W W' X) (hf : ∀ y ∈ X, y.mv = false → ∀ k ∈ y.foot, W.heap.size ≤ k) (hx : X.all (fun y => (match y with | .t _ _ => false | _ => true) && H.all (tyOk y)) = true) : SH F w W' (X ++ H) := by
 have hn : ∀ y ∈ X, ∀ k ∈ y.foot, W.heap.size ≤ k := fun y hy k hk => by
  cases hm : y.mv with
  | false => exact hf y hy hm k hk
  | true => exact Nat.le_of_not_lt fun hlt => by have := h'.old y hy hm k hk hlt; cases this
 have h2 := h.next h'.off
 refine ⟨h2.off, fun y hy => ?_, List.pairwise_append.2 ⟨h'.ap, h2.ap, fun y hy z hz => ⟨fun hm => ?_, fun hm => ?_⟩⟩, fun y hy hm k hk hlt => ?_⟩
 ·
  rcases List.mem_append.1 hy with hy | hy
  ·
   exact h'.all y hy
  exact h2.all y hy
 ·
  have h3 := List.all_eq_true.1 hx y hy
  have h4 := As.lt (h.all z hz)
  cases z with
  | t T K =>
   have h5 := List.all_eq_true.1 (Bool.and_eq_true_iff.1 h3).2 _ hz
   simpa [tyOk, hm] using h5
  | _ => exact fun k hk hk' => Nat.not_lt.2 (hn y hy k hk) (h4 k hk')
 ·
  have h3 := List.all_eq_true.1 hx y hy
  have h4 := As.lt (h.all z hz)
  cases y with
  | t T K => simp at h3
  | _ => exact fun k hk hk' => Nat.not_lt.2 (hn _ hy k hk') (h4 k hk)
 rcases List.mem_append.1 hy with hy | hy
 ·
  have := hn y hy k hk; have := h.size; omega
 exact h2.old y hy hm k hk hlt
end SH
theorem J3r {P : Program} {ops : Array Oper} {k : Wk} {F : List Nat} {w : World} {H : List As} {l : List Oper} {a : Act} {p : Prop} (hp : ∀ W, SH F w W H → p) (h : p → wpM P ops k F w H l a) : wpM P ops k F w H l a := fun W hS => h (hp W hS) W hS
theorem Z0z {P : Program} {α : Type} {f : FuncId} {args : Array Value} {F : List Nat} {w W : World} {H : List As} {V : α → Value} {X : α → List As} (hS : SH F w W H) (hc : Calls P f args W fun e W' => ∃ x, e = .returned (V x) ∧ SH [] W W' (X x) ∧ ∀ y ∈ X x, y.mv = false → ∀ k ∈ y.foot, W.heap.size ≤ k) (ht : ∀ x, (X x).all (fun y => (match y with | .t _ _ => false | _ => true) && H.all (SH.tyOk y)) = true) :
  Calls P f args W fun e W' => ∃ x, e = .returned (V x) ∧ SH F w W' (X x ++ H) :=
 hc.mono fun e W' ⟨x, h1, h2, h3⟩ => ⟨x, h1, hS.newL h2 h3 (ht x)⟩
theorem J6c {P : Program} {a : Act} {o : Oper} {x : Operand} {tS t : TypeId} {W : World} {A : Option Addr} {n c : Nat} (ho : o.op = .call { callee := .builtin .len, args := #[x], argTypes := #[tS] }) (hx : a.eval x = .slice A n c) (ht : P.underlying tS = some (.slice t)) : (execOp a.eval o).run P W = .ok (.value (.int .i64 (n : Int))) W := by
 unfold execOp
 simp only [ho, resolve, invoke, builtin, Sem.run_bind, Sem.run_pure, Result.andThen_ok, List.map_toArray, List.map_cons, List.map_nil, hx]
 simp [Builtin.len_, run_underlying ht, goInt, Sem.run_bind]
theorem Y7l {w : World} {t : TypeId} {n : Nat} {v : Value} {es : List (List Value)} {f : List Nat} {K : World → Prop} (h : ∀ k ∈ f, w.heap.size ≤ k) : ∀ y ∈ [As.r t n v es, As.p f K], y.mv = false → ∀ k ∈ y.foot, w.heap.size ≤ k := fun y hy hm => by
 rcases List.mem_cons.1 hy with rfl | hy
 ·
  cases hm
 ·
  rw [List.mem_singleton.1 hy]; exact h
theorem Q43 {W : World} {us : List Value} {ts : List (List UInt8)} (h : TXS W us ts) {n : Nat} {t : List UInt8} (ht : ts[n]? = some t) : ∃ u, us[n]? = some u ∧ Sl W u t := by
 have h1 := (List.getElem?_eq_some_iff.1 ht).1
 have h2 : n < us.length := by rw [h.1]; exact h1
 exact ⟨us[n], List.getElem?_eq_getElem h2, h.2 n _ t (List.getElem?_eq_getElem h2) ht⟩
theorem J33 {P : Program} {α : Type} {f : FuncId} {args : Array Value} {F : List Nat} {w W : World} {H : List As} {V : α → Value} {X : α → As} (hS : SH F w W H) (hc : Calls P f args W fun e W' => ∃ x, e = .returned (V x) ∧ SH [] W W' [X x]) (ht : ∀ x, (X x).mv = true ∧ H.all (SH.tyOk (X x)) = true) :
  Calls P f args W fun e W' => ∃ x, e = .returned (V x) ∧ SH F w W' (X x :: H) :=
 hc.mono fun e W' ⟨x, h1, h2⟩ => ⟨x, h1, SH.frame (L := []) (L' := [X x]) (R := H) hS h2 ⟨.inr (ht x), trivial⟩⟩
theorem Q0k {P : Program} {fn : Func} {p q r : Tmp} {ty t : TypeId} {tmps : Array Value} {w : World} {g : Nat} {cs : Array Value} {v u : Value} (h : fn.results = #[.cell p ty, .tmp q, .tmp r])
  (hp : tmps.getD p undef = .pointer (some ⟨g, 0, none⟩)) (hq : tmps.getD q undef = v) (hr : tmps.getD r undef = u) (hB : Blk w g cs t) (hk : (P.underlying ty).map TypeDesc.isRow = some true) (hi : (P.info? ty).map (·.size) = some cs.size) :
  (results fn tmps).run P w = .ok (.tuple #[.agg cs, v, u]) w := by
 cases hu : P.underlying ty with
 | none => simp [hu] at hk
 | some d =>
  have hd : d.isRow = true := by simpa [hu] using hk
  have hp' : tmps[p]?.getD undef = .pointer (some ⟨g, 0, none⟩) := by simpa using hp
  have hq' : tmps[q]?.getD undef = v := by simpa using hq
  have hr' : tmps[r]?.getD undef = u := by simpa using hr
  simp [results, h, hp', hq', hr', asAddr, run_loadVar_row w g t ty cs _ d hB hu (by cases d <;> simp_all [TypeDesc.isRow]) hi]
theorem Q7d {P : Program} {fn : Func} {p q r : Tmp} {ty t : TypeId} {tmps : Array Value} {w : World} {g : Nat} {cs : Array Value} {v u : Value} (h : fn.results = #[.tmp q, .cell p ty, .tmp r])
  (hp : tmps.getD p undef = .pointer (some ⟨g, 0, none⟩)) (hq : tmps.getD q undef = v) (hr : tmps.getD r undef = u) (hB : Blk w g cs t) (hk : (P.underlying ty).map TypeDesc.isRow = some true) (hi : (P.info? ty).map (·.size) = some cs.size) :
  (results fn tmps).run P w = .ok (.tuple #[v, .agg cs, u]) w := by
 cases hu : P.underlying ty with
 | none => simp [hu] at hk
 | some d =>
  have hd : d.isRow = true := by simpa [hu] using hk
  have hp' : tmps[p]?.getD undef = .pointer (some ⟨g, 0, none⟩) := by simpa using hp
  have hq' : tmps[q]?.getD undef = v := by simpa using hq
  have hr' : tmps[r]?.getD undef = u := by simpa using hr
  simp [results, h, hp', hq', hr', asAddr, run_loadVar_row w g t ty cs _ d hB hu (by cases d <;> simp_all [TypeDesc.isRow]) hi]
theorem Row.form {α : Type} {f : α → List Value} {ls : List α} {t : TypeId} {k : Nat} {w : World} {v : Value} (h : Row t k w v (ls.map f)) : ∃ A c, v = .slice A ls.length c := by
 obtain ⟨A, c, h1, _⟩ := RR.opf h.rr
 exact ⟨A, c, h1⟩
end
end Go.Proofs.YtejkmhgkkibafaaGreatDoor
