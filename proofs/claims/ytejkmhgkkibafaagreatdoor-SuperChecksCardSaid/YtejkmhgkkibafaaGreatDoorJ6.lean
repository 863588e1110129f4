/- Contracts and plain laws that superChecks_holds rests on. Conditions: the variables' cells hold the numbers of the program's text. -/
import Derived.Test.YtejkmhgkkibafaaGreatDoorJ5
import Derived.Laws.CopyRow
import Derived.Test.YtejkmhgkkibafaaGreatDoorGc
import Derived.Laws.Tables
import Derived.Test.YtejkmhgkkibafaaGreatDoorRows
import Derived.ProofKit
import Derived.OpenShut
import Derived.Deep.Slices
import Derived.Deep.DeepHandedRow
import Derived.Carry
import Derived.Test.YtejkmhgkkibafaaGreatDoorGa
import Derived.WalkKit
import Derived.Lib.LaidTab
open Go.RowKit
set_option maxRecDepth 100000
set_option linter.unusedSimpArgs false
set_option linter.unusedVariables false
namespace Go.Proofs.YtejkmhgkkibafaaGreatDoor
section
theorem J17 {P : Program} {a : Act} {o : Oper} {x y : Operand} {tS t : TypeId} {k g oo : Nat} {W : World} {kk : IntKind} {A : Option Addr} {n c j : Nat} (hA : A = some ⟨g, oo, none⟩) (hj : j < n) (ho : o.op = .indexAddr tS x y) (hx : a.eval x = .slice A n c) (hy : a.eval y = .int kk (j : Int)) (ht : P.underlying tS = some (.slice t)) (hi : (P.info? t).map (·.size) = some k) :
    (execOp a.eval o).run P W = .ok (.value (.pointer (some ⟨g, oo + j * k, none⟩))) W := by
  subst hA; rw [Y00 hj ho hx hy ht hi, Addr.add_mid]
def RR (k : Nat) (w : World) (v : Value) (es : List (List Value)) : Prop :=
  ∃ A c, v = .slice A es.length c ∧ es.length ≤ c ∧ (A = none → c = 0) ∧ ∀ (j : Nat) (e : List Value), es[j]? = some e → ∃ g o, A = some ⟨g, o, none⟩ ∧ ∀ (i : Nat) (x : Value), e[i]? = some x → w.cell? ⟨g, o + j * k + i, none⟩ = some x
theorem RR.ext {k : Nat} {w W : World} {v : Value} {es : List (List Value)} (h : RR k w v es) (q : Ext w W) : RR k W v es := by
  obtain ⟨A, c, h1, h2, h0, h3⟩ := h
  refine ⟨A, c, h1, h2, h0, fun j e hj => ?_⟩
  obtain ⟨g, o, h4, h5⟩ := h3 j e hj
  exact ⟨g, o, h4, fun i x hx => J24 (h5 i x hx) q⟩
theorem RR.cellat {k n c j g o : Nat} {w : World} {A : Option Addr} {es : List (List Value)} {e : List Value} (h : RR k w (.slice A n c) es) (hj : es[j]? = some e) (hA : A = some ⟨g, o, none⟩) : ∀ (i : Nat) (x : Value), e[i]? = some x → w.cell? ⟨g, o + j * k + i, none⟩ = some x := by
  obtain ⟨A', c', h1, _, _, h3⟩ := h
  injection h1 with h1
  obtain ⟨g', o', h4, h5⟩ := h3 j e hj
  rw [← h1, hA] at h4
  injection h4 with h4
  injection h4 with h6 h7
  subst h6; subst h7
  exact h5
theorem Y5z (k : Nat) (w : World) : RR k w (.slice none 0 0) [] := ⟨none, 0, rfl, Nat.le_refl _, fun _ => rfl, fun j e h => by simp at h⟩
theorem Row.rr {t : TypeId} {k : Nat} {w : World} {v : Value} {es : List (List Value)} (h : Row t k w v es) : RR k w v es := by
  have h0 : ∃ A c, v = .slice A es.length c ∧ es.length ≤ c ∧ (A = none → c = 0) := by
    rcases h.1.2 with ⟨rfl, hn⟩ | ⟨g, D, G, rfl, _, hh, hc, _⟩
    · exact ⟨none, 0, by rw [hn], by omega, fun _ => rfl⟩
    exact ⟨_, _, rfl, hc, fun e => by cases e⟩
  obtain ⟨A, c, h1, h2, h3⟩ := h0
  refine ⟨A, c, h1, h2, h3, fun j e hj => ?_⟩
  obtain ⟨g, c', h3, h4⟩ := h.at hj
  rw [h1] at h3
  injection h3 with h3
  exact ⟨g, 0, h3, fun i x hx => by rw [Nat.zero_add]; exact h4 i x hx⟩
theorem Q4x {P : Program} {tS t : TypeId} {k m : Nat} {w : World} {v : Value} {es : List (List Value)} (h : RR k w v es) (hm : m ≤ es.length) (ht : P.underlying tS = some (.slice t)) (hi : (P.info? t).map (·.size) = some k) :
    ∃ u, (∀ W, (Instr.sliceAt tS v none (some (.int .i64 (m : Int))) none).run P W = .ok u W) ∧ ∀ W, RR k W v es → RR k W u (es.take m) := by
  obtain ⟨A, c, rfl, h1, h0, _⟩ := h
  have hr : ∀ W, (Instr.sliceAt tS (.slice A es.length c) none (some (.int .i64 (m : Int))) none).run P W = .ok (.slice (if c = 0 then A else A.map (·.add 0)) m c) W := by
    intro W
    have D : m ≤ c := by omega
    cases hq : P.info? t with
    | none => simp [hq] at hi
    | some i => simp [Instr.sliceAt, Instr.slice, Instr.sliceBounds, Instr.sliceBound, asIntOf, run_underlying ht, Sem.run_bind, sizeOf, typeInfo, hq, D]
  have hA : (if c = 0 then A else A.map (·.add 0)) = A := by
    have : ∀ a : Addr, a.add 0 = a := fun a => by unfold Addr.add; simp
    cases A <;> simp [this]
  rw [hA] at hr
  refine ⟨_, hr, fun W hW => ?_⟩
  obtain ⟨A', c', he, _, _, h3⟩ := hW
  injection he with e1 _ e2
  subst e1 e2
  have hl : (es.take m).length = m := by rw [List.length_take]; omega
  refine ⟨A, c, by rw [hl], by omega, h0, fun j e hj => h3 j e ?_⟩
  rw [List.getElem?_take] at hj
  split at hj
  · exact hj
  cases hj
theorem Y05 {P : Program} {tS t : TypeId} {k m : Nat} {w : World} {v : Value} {es : List (List Value)} (h : RR k w v es) (hm : m ≤ es.length) (ht : P.underlying tS = some (.slice t)) (hi : (P.info? t).map (·.size) = some k) :
    ∃ u, (∀ W, (Instr.sliceAt tS v (some (.int .i64 (m : Int))) none none).run P W = .ok u W) ∧ ∀ W, RR k W v es → RR k W u (es.drop m) := by
  obtain ⟨A, c, rfl, h1, h0, _⟩ := h
  have hr : ∀ W, (Instr.sliceAt tS (.slice A es.length c) (some (.int .i64 (m : Int))) none none).run P W = .ok (.slice (if c = m then A else A.map (·.add (m * k))) (es.length - m) (c - m)) W := by
    intro W
    cases hq : P.info? t with
    | none => simp [hq] at hi
    | some i =>
      have hs : i.size = k := by simpa [hq] using hi
      simp [Instr.sliceAt, Instr.slice, Instr.sliceBounds, Instr.sliceBound, asIntOf, run_underlying ht, Sem.run_bind, sizeOf, typeInfo, hq, hs, hm]
  refine ⟨_, hr, fun W hW => ?_⟩
  obtain ⟨A', c', he, _, _, h3⟩ := hW
  injection he with e1 _ e2
  subst e1 e2
  have hl : (es.drop m).length = es.length - m := List.length_drop ..
  refine ⟨_, c - m, by rw [hl], by omega, fun e => ?_, fun j e hj => ?_⟩
  · split at e
    · have := h0 e; omega
    cases A with
    | none => have := h0 rfl; omega
    | some ad => cases e
  rw [List.getElem?_drop] at hj
  obtain ⟨g, oo, hA, h4⟩ := h3 (m + j) e hj
  subst hA
  have D : m + j < es.length := by
    rcases Nat.lt_or_ge (m + j) es.length with h | h
    · exact h
    rw [List.getElem?_eq_none h] at hj; cases hj
  refine ⟨g, oo + m * k, ?_, fun i x hx => ?_⟩
  · rw [if_neg (by omega)]
    show some (Addr.add _ _) = _
    rw [Addr.add_mid]
  have := h4 i x hx
  rw [Nat.add_mul, ← Nat.add_assoc] at this
  exact this
theorem J18 {W : World} {o : Oper} {a : Act} {x y : Operand} {t : TypeId} {l m : List UInt8} {b : Bool} (hb : decide (l = m) = b) (ho : o.op = .binOp .neq 9 x y t) (hx : a.eval x = str l) (hy : a.eval y = str m) : (execOp a.eval o).run Tryz.prog W = .ok (.value (.bool (!b))) W := hb ▸ Z2s ho hx hy
theorem J7v {P : Program} {a : Act} {o : Oper} {x y : Operand} {tS : TypeId} {v k u : Value} {W : World} (hr : ∀ W, (Instr.sliceAt tS v none (some k) none).run P W = .ok u W) (ho : o.op = .slice tS x none (some y) none) (hx : a.eval x = v) (hy : a.eval y = k) : (execOp a.eval o).run P W = .ok (.value u) W := by
  simp [execOp, ho, hx, hy, hr W, Sem.run_bind]
theorem Q3w {P : Program} {a : Act} {o : Oper} {x y : Operand} {tS : TypeId} {v k u : Value} {W : World} (hr : ∀ W, (Instr.sliceAt tS v (some k) none none).run P W = .ok u W) (ho : o.op = .slice tS x (some y) none none) (hx : a.eval x = v) (hy : a.eval y = k) : (execOp a.eval o).run P W = .ok (.value u) W := by
  simp [execOp, ho, hx, hy, hr W, Sem.run_bind]
section
variable {ops : Array Oper} {Q : Exit → Act → World → Prop} {F : List Nat} {w : World} {H : List As} {l : List Oper} {o : Oper} {a : Act}
end
end

section
attribute [local irreducible] wpList U0 wpX
theorem RJ {P : Program} {ops : Array Oper} {id : Nat} {a : Act} {w : World} {Q : Exit → Act → World → Prop} {R : Act → World → Prop} (h : (Code.region id ops true).wp P (Nml R) a w) (hk : ∀ a' w', R a' w' → Q .normal a' w') : (Code.region id ops true).wp P Q a w :=
  Code.wp_mono (fun e a' w' h' => by cases e <;> first | exact hk _ _ h' | exact (h' : False).elim) h
section
variable {ops : Array Oper} {Q : Exit → Act → World → Prop} {F : List Nat} {w : World} {H H' : List As} {r : List Oper} {o : Oper} {a a' : Act}
end
end

section
theorem J44 (A : Nat) : ∀ n, J0o (Q3 A) n = A % 2 ^ (8 * n)
  | 0 => by rw [Nat.mul_zero, Nat.pow_zero, Nat.mod_one]; rfl
  | n + 1 => by
    show J0o (Q3 A) n + (Q3 A n).toNat * 2 ^ (8 * n) = _
    rw [J44 A n, Nat.mul_add, Nat.pow_add, Nat.mod_mul, Nat.mul_comm (Q3 A n).toNat]
    rfl
theorem Q4t {A B : Nat} (hA : A < 2 ^ 256) (hB : B < 2 ^ 256) (h : ∀ j, j < 32 → Q3 A j = Q3 B j) : A = B := by
  have D : ∀ n, n ≤ 32 → J0o (Q3 A) n = J0o (Q3 B) n := by
    intro n
    induction n with
    | zero => intro _; rfl
    | succ n ih => intro hn; show J0o (Q3 A) n + (Q3 A n).toNat * _ = J0o (Q3 B) n + (Q3 B n).toNat * _; rw [ih (by omega), h n (by omega)]
  have := D 32 (by omega)
  rw [J44, J44] at this
  rwa [show 8 * 32 = 256 by decide, Nat.mod_eq_of_lt hA, Nat.mod_eq_of_lt hB] at this
theorem Z0p (A B : Nat) (hA : A < 2 ^ 256) (hB : B < 2 ^ 256) (w : World) : (Op.equalIn 10000 23 (.agg (J0 .u8 32 (Q3 A))) (.agg (J0 .u8 32 (Q3 B)))).run Tryz.prog w = .ok (decide (A = B)) w := by
  have h := J22 (P := Tryz.prog) w 9998 23 5 32 .u8 (J0 .u8 32 (Q3 A)) (J0 .u8 32 (Q3 B)) (Q3 A) (Q3 B) Tryz.underlying23 Tryz.underlying5 (by kernel_rfl)
    (fun i hi => J3 _ _ _ _ hi) (fun i hi => J3 _ _ _ _ hi)
  rw [h]
  congr 1
  rw [Bool.eq_iff_iff, J4n, decide_eq_true_iff]
  exact ⟨Q4t hA hB, fun h => by subst h; intro _ _; rfl⟩
def lb (n V : Nat) : List UInt8 := (List.range n).map fun j => UInt8.ofNat (V / 2 ^ (8 * j) % 256)
theorem J8 (n V : Nat) : (lb n V).length = n := by simp [lb]
theorem Q22 {n V j : Nat} (hj : j < n) : (lb n V)[j]? = some (UInt8.ofNat (V / 2 ^ (8 * j) % 256)) := by simp [lb, hj]
theorem J9x (V j : Nat) : ((UInt8.ofNat (V / 2 ^ (8 * j) % 256)).toNat : Int) = Q3 V j := by
  unfold Q3
  rw [UInt8.toNat_ofNat', Nat.mod_mod]
theorem Q0y (n V : Nat) : Q3a n (Q3 V) = str (lb n V) := by
  unfold Q3a str strOfNums lb
  congr 1
  simp only [List.map_map]
  congr 1
theorem J6u (n V : Nat) : bs8 (lb n V) = J50 .u8 n (Q3 V) := by
  unfold bs8 lb J50
  rw [List.map_map]
  apply List.map_congr_left
  intro j _
  simp only [Function.comp, J9x]
theorem J26 (n : Nat) (f : Nat → Int) : (J0 .u8 n f).toList = J50 .u8 n f := rfl
theorem Q4u {A B : Nat} (hA : A < 2 ^ 256) (hB : B < 2 ^ 256) (h : lb 32 A = lb 32 B) : A = B := by
  refine Q4t hA hB fun j hj => ?_
  have h1 := Q22 (V := A) hj
  rw [h, Q22 hj] at h1
  rw [← J9x, ← J9x, Option.some.inj h1]
def le : List UInt8 → Nat
  | [] => 0
  | x :: r => x.toNat + 256 * le r
theorem Q6f : ∀ l : List UInt8, le l < 2 ^ (8 * l.length)
  | [] => by decide
  | x :: r => by
    have h := Q6f r
    have hx := x.toNat_lt
    show x.toNat + 256 * le r < 2 ^ (8 * (r.length + 1))
    rw [Nat.mul_add, Nat.pow_add]
    omega
theorem Z0q : ∀ {l : List UInt8} {i : Nat} {c : UInt8}, l[i]? = some c → le l / 2 ^ (8 * i) % 256 = c.toNat
  | x :: r, 0, c, h => by
    obtain rfl : x = c := by simpa using h
    have hx := x.toNat_lt
    show (x.toNat + 256 * le r) / 2 ^ 0 % 256 = _
    rw [Nat.pow_zero, Nat.div_one]
    omega
  | x :: r, i + 1, c, h => by
    have hx := x.toNat_lt
    have ih := Z0q (l := r) (i := i) (c := c) (by simpa using h)
    show (x.toNat + 256 * le r) / 2 ^ (8 * (i + 1)) % 256 = _
    rw [Nat.mul_add, Nat.add_comm (8 * i), Nat.pow_add, ← Nat.div_div_eq_div_mul, show (x.toNat + 256 * le r) / 2 ^ (8 * 1) = le r by omega]
    exact ih
theorem J7u (n V : Nat) : lb (n + 1) V = UInt8.ofNat (V % 256) :: lb n (V / 256) := by
  unfold lb
  rw [List.range_succ_eq_map, List.map_cons, List.map_map]
  congr 1
  · rw [Nat.mul_zero, Nat.pow_zero, Nat.div_one]
  apply List.map_congr_left
  intro j _
  simp only [Function.comp]
  rw [Nat.div_div_eq_div_mul, Nat.succ_eq_add_one, Nat.mul_add, Nat.pow_add, Nat.mul_comm (2 ^ (8 * j))]
theorem Z5o : ∀ n V : Nat, V < 2 ^ (8 * n) → le (lb n V) = V
  | 0, V, h => by
    have : V < 1 := h
    obtain rfl : V = 0 := by omega
    rfl
  | n + 1, V, h => by
    rw [J7u]
    show (UInt8.ofNat (V % 256)).toNat + 256 * le (lb n (V / 256)) = V
    rw [Nat.mul_add, Nat.pow_add] at h
    rw [Z5o n (V / 256) (by omega), UInt8.toNat_ofNat']
    omega
theorem Y4b : ∀ l : List UInt8, lb l.length (le l) = l
  | [] => rfl
  | x :: r => by
    have hx : x.toNat < 256 := x.toNat_lt
    rw [List.length_cons, J7u]
    show UInt8.ofNat ((x.toNat + 256 * le r) % 256) :: lb r.length ((x.toNat + 256 * le r) / 256) = _
    rw [show (x.toNat + 256 * le r) % 256 = x.toNat by omega, show (x.toNat + 256 * le r) / 256 = le r by omega, Y4b r]
    congr 1
    exact UInt8.ofNat_toNat
theorem Q8h {l : List UInt8} {n : Nat} (h : l.length = n) : lb n (le l) = l := h ▸ Y4b l
theorem Y5y (n V : Nat) : lb n (V % 2 ^ (8 * n)) = lb n V := by
  induction n generalizing V with
  | zero => rfl
  | succ n ih =>
    rw [J7u, J7u]
    have e : (2 : Nat) ^ (8 * (n + 1)) = 256 * 2 ^ (8 * n) := by rw [show 8 * (n + 1) = 8 * n + 8 by omega, Nat.pow_add]; omega
    rw [e, Nat.mod_mul_right_mod, Nat.mod_mul_right_div_self, ih]
theorem Q6e {n : Nat} {f g : Nat → Int} (h : (J0 .u8 n f).toList = (J0 .u8 n g).toList) : J0 .u8 n f = J0 .u8 n g := by
  rw [← Array.toArray_toList (xs := J0 .u8 n f), h, Array.toArray_toList]
theorem K0 {w : World} {b off n c V : Nat} {cs : Array Value} {t : TypeId} (h : Blk w b cs t) (hc : ∀ i v, (J0 .u8 n (Q3 V))[i]? = some v → cs[off + i]? = some v) (hn : n ≤ c) (hm : c ≤ maxLen) : Sl w (.slice (some ⟨b, off, none⟩) n c) (lb n V) :=
  Z56 h (J8 n V).symm hn hm fun j x hj => by
    have D : j < n := by have := (List.getElem?_eq_some_iff.1 hj).1; rwa [J8] at this
    rw [Q22 D] at hj
    have := Option.some.inj hj
    subst this
    rw [J9x]
    exact hc j _ (J3 _ _ _ _ D)
theorem ap0 {a : Array Value} : ∀ i v, a[i]? = some v → a[0 + i]? = some v := fun i v h => by rw [Nat.zero_add]; exact h
theorem pv0 {w : World} : ∀ (i : Nat) (l : List UInt8), ([] : List (List UInt8))[i]? = some l → ∃ u, ([] : List Value)[i]? = some u ∧ Sl w u l := fun i l h => by simp at h
theorem pvc {w : World} {ps : List (List UInt8)} {vs : List Value} {v : Value} {m : List UInt8} (h : Sl w v m) (k : ∀ (i : Nat) (l : List UInt8), ps[i]? = some l → ∃ u, vs[i]? = some u ∧ Sl w u l) :
    ∀ (i : Nat) (l : List UInt8), (m :: ps)[i]? = some l → ∃ u, (v :: vs)[i]? = some u ∧ Sl w u l
  | 0, l, hi => ⟨v, rfl, by
      have e : m = l := by simpa using hi
      subst e; exact h⟩
  | i + 1, l, hi => k i l (by simpa using hi)
theorem J1z {w : World} {g : Nat} {cs : Array Value} {ps : List (List UInt8)} {t : TypeId} (h : Blk w g cs t) (hv : ∀ (i : Nat) (l : List UInt8), ps[i]? = some l → ∃ u, cs.toList[i]? = some u ∧ Sl w u l) :
    ∀ (i : Nat) (l : List UInt8), ps[i]? = some l → ∃ ad u, some (⟨g, 0, none⟩ : Addr) = some ad ∧ w.cell? (ad.add i) = some u ∧ Sl w u l := fun i l hi => by
  obtain ⟨u, h1, h2⟩ := hv i l hi
  exact ⟨_, u, rfl, by rw [Addr.add_mid, J7 h, Nat.zero_add]; simpa using h1, h2⟩
theorem Z5p {w W : World} {A : Option Addr} {ps : List (List UInt8)} (k : Off [] w W) (h : ∀ (i : Nat) (l : List UInt8), ps[i]? = some l → ∃ ad u, A = some ad ∧ w.cell? (ad.add i) = some u ∧ Sl w u l) :
    ∀ (i : Nat) (l : List UInt8), ps[i]? = some l → ∃ ad u, A = some ad ∧ W.cell? (ad.add i) = some u ∧ Sl W u l := fun i l hi => by
  obtain ⟨ad, u, h1, h2, h3⟩ := h i l hi
  exact ⟨ad, u, h1, J24 h2 k.ext, h3.off k f0⟩
end

section
inductive Fd where
  | c : Value → Fd
  | a : Nat → Nat → Fd
def Fd.cs : Fd → List Value
  | .c v => [v]
  | .a n X => (J0 .u8 n (Q3 X)).toList
def Fd.wid : Fd → Nat
  | .c _ => 1
  | .a n _ => n
theorem Fd.len (x : Fd) : x.cs.length = x.wid := by
  cases x with
  | c v => rfl
  | a n X => show (J0 .u8 n (Q3 X)).toList.length = n; rw [Array.length_toList, J1]
def fcs : List Fd → List Value
  | [] => []
  | x :: l => x.cs ++ fcs l
def fsz : List Fd → Nat
  | [] => 0
  | x :: l => x.wid + fsz l
theorem J57 : ∀ l : List Fd, (fcs l).length = fsz l
  | [] => rfl
  | x :: l => by show (x.cs ++ fcs l).length = x.wid + fsz l; rw [List.length_append, Fd.len, J57 l]
theorem J6a : ∀ l m : List Fd, fcs (l ++ m) = fcs l ++ fcs m
  | [], _ => rfl
  | x :: l, m => by show x.cs ++ fcs (l ++ m) = x.cs ++ fcs l ++ fcs m; rw [J6a l m, List.append_assoc]
def agF (l : List Fd) : Array Value := (fcs l).toArray
theorem J4 (l : List Fd) : (agF l).size = fsz l := by unfold agF; rw [List.size_toArray, J57]
theorem Q27 (l : List Fd) : (agF l).toList = fcs l := rfl
theorem J94 (n X : Nat) : agF [.a n X] = J0 .u8 n (Q3 X) := by apply Array.toList_inj.1; show (J0 .u8 n (Q3 X)).toList ++ [] = _; rw [List.append_nil]
def Y07 : List Fd → Prop
  | [] => True
  | .c v :: l => v.oneCell' = true ∧ Y07 l
  | .a _ _ :: l => Y07 l
theorem Q4z : ∀ {l : List Fd}, Y07 l → ∀ v ∈ fcs l, v.oneCell' = true
  | [], _, v, h => by cases h
  | .c u :: l, h, v, hv => by
    rcases List.mem_cons.1 (show v ∈ u :: fcs l from hv) with rfl | hv
    · exact h.1
    · exact Q4z h.2 v hv
  | .a n X :: l, h, v, hv => by
    rcases List.mem_append.1 (show v ∈ (J0 .u8 n (Q3 X)).toList ++ fcs l from hv) with hv | hv
    · exact Array.all_eq_true_iff_forall_mem.1 (Z9 .u8 n (Q3 X)) v (by simpa using hv)
    · exact Q4z (l := l) h v hv
theorem J0a {l : List Fd} (h : Y07 l) : (agF l).all (·.oneCell') = true :=
  Array.all_eq_true_iff_forall_mem.2 fun v hv => Q4z h v (by simpa [agF] using hv)
section
variable {l m l' : List Fd} {off N X Y : Nat} {u v : Value}
theorem Q6z (i n : Nat) (hm : (l.drop i).take n = m := by exact rfl) (ho : fsz (l.take i) = off := by first | kernel_rfl | exact rfl) : ∀ j v, (agF m)[j]? = some v → (agF l)[off + j]? = some v := by
  subst hm ho
  intro j v h
  have h1 : (fcs ((l.drop i).take n))[j]? = some v := by simpa [agF] using h
  have e : fcs l = fcs (l.take i) ++ (fcs ((l.drop i).take n) ++ fcs ((l.drop i).drop n)) := by rw [← J6a, List.take_append_drop, ← J6a, List.take_append_drop]
  show (fcs l).toArray[_]? = _
  rw [List.getElem?_toArray, e, List.getElem?_append_right (by rw [J57]; omega), J57, Nat.add_sub_cancel_left, List.getElem?_append_left (List.getElem?_eq_some_iff.1 h1).1]
  exact h1
theorem J3z {α : Type} {l : List α} {i : Nat} {x : α} (h : l[i]? = some x) : (l.drop i).take 1 = [x] := by
  obtain ⟨h1, h2⟩ := List.getElem?_eq_some_iff.1 h
  rw [List.drop_eq_getElem_cons h1, h2]; rfl
theorem J1g (i : Nat) (hi : l[i]? = some (.a N X) := by exact rfl) (ho : fsz (l.take i) = off := by first | kernel_rfl | exact rfl) : ∀ j v, (J0 .u8 N (Q3 X))[j]? = some v → (agF l)[off + j]? = some v := by
  rw [← J94]; exact Q6z i 1 (J3z hi) ho
theorem Y3 (i : Nat) (hi : l[i]? = some (.c v) := by exact rfl) (ho : fsz (l.take i) = off := by first | kernel_rfl | exact rfl) : (agF l)[off]? = some v := by
  have h := Q6z i 1 (J3z hi) ho 0 v rfl
  exact h
theorem Q50 : ∀ (vs old pre post : List Value), old.length = vs.length → spl (pre ++ (old ++ post)).toArray pre.length vs = (pre ++ (vs ++ post)).toArray
  | [], old, pre, post, h => by rw [List.eq_nil_of_length_eq_zero h]; rfl
  | u :: r, [], pre, post, h => by cases h
  | u :: r, o :: old, pre, post, h => by
    show spl ((pre ++ (o :: old ++ post)).toArray.setIfInBounds pre.length u) (pre.length + 1) r = _
    have e : (pre ++ (o :: old ++ post)).toArray.setIfInBounds pre.length u = ((pre ++ [u]) ++ (old ++ post)).toArray := by
      apply Array.toList_inj.1
      rw [Array.toList_setIfInBounds]
      show (pre ++ (o :: old ++ post)).set pre.length u = _
      rw [List.set_append_right _ _ (Nat.le_refl _), Nat.sub_self]; simp
    rw [e, show pre.length + 1 = (pre ++ [u]).length by simp, Q50 r old (pre ++ [u]) post (by simpa using h)]
    simp
theorem X9 (i n : Nat) (hl : l.take i ++ (m ++ l.drop (i + n)) = l' := by exact rfl) (ho : fsz (l.take i) = off := by first | kernel_rfl | exact rfl) (hm : fsz m = fsz ((l.drop i).take n) := by first | kernel_rfl | exact rfl) : spl (agF l) off (agF m).toList = agF l' := by
  subst ho hl
  have e : fcs l = fcs (l.take i) ++ (fcs ((l.drop i).take n) ++ fcs ((l.drop i).drop n)) := by rw [← J6a, List.take_append_drop, ← J6a, List.take_append_drop]
  have h := Q50 (fcs m) (fcs ((l.drop i).take n)) (fcs (l.take i)) (fcs ((l.drop i).drop n)) (by rw [J57, J57, hm])
  rw [← e, J57] at h
  show spl (fcs l).toArray _ (fcs m) = (fcs _).toArray
  rw [h, J6a, J6a, List.drop_drop]
theorem J77 {α : Type} : ∀ {l : List α} {i : Nat} {x y : α}, l[i]? = some x → l.set i y = l.take i ++ ([y] ++ l.drop (i + 1))
  | [], _, _, _, h => by simp at h
  | _ :: _, 0, _, _, _ => rfl
  | _ :: l, i + 1, _, y, h => congrArg _ (J77 (l := l) (y := y) (by simpa using h))
theorem Q70 (i : Nat) (hi : l[i]? = some (.a N X) := by exact rfl) (hl : l.set i (.a N Y) = l' := by exact rfl) (ho : fsz (l.take i) = off := by first | kernel_rfl | exact rfl) : spl (agF l) off (J0 .u8 N (Q3 Y)).toList = agF l' := by
  rw [← J94]; exact X9 i 1 (by rw [← hl]; exact (J77 hi).symm) ho (by rw [J3z hi]; rfl)
theorem J2q (i : Nat) (hi : l[i]? = some (.c u) := by exact rfl) (hl : l.set i (.c v) = l' := by exact rfl) (ho : fsz (l.take i) = off := by first | kernel_rfl | exact rfl) : (agF l).setIfInBounds off v = agF l' := by
  have h := X9 (l' := l') (m := [.c v]) i 1 (by rw [← hl]; exact (J77 hi).symm) ho (by rw [J3z hi]; rfl)
  exact h
end
/-! ### a struct built of parts -/
theorem Q71 (off : Nat) : ∀ (vs : List Value) (k : Nat) (cs : Array Value), (vs.zipIdx k).foldl (fun cs (x : Value × Nat) => cs.setIfInBounds (off + x.2) x.1) cs = spl cs (off + k) vs
  | [], _, _ => rfl
  | v :: vs, k, cs => by
    show ((vs.zipIdx (k + 1)).foldl _ (cs.setIfInBounds (off + k) v)) = spl (cs.setIfInBounds (off + k) v) (off + k + 1) vs
    exact Q71 off vs (k + 1) _
theorem J11 {place : Nat → Option (Nat × Nat)} {l l' m : List Fd} {i off n : Nat} {v : Value} {r : List (Nat × Value)} {cs : Option (Array Value)} (h : Instr.fill place (agF l') r = cs) (hv : v.cells = agF m) (hs : spl (agF l) off (agF m).toList = agF l') (hp : place i = some (off, n)) (hn : fsz m = n) (hb : off + n ≤ fsz l) : Instr.fill place (agF l) ((i, v) :: r) = cs := by
  unfold Instr.fill
  rw [hp]
  show (if (v.cells.size ≠ n || off + v.cells.size > (agF l).size) = true then none else _) = _
  rw [hv, J4, J4, hn, if_neg (by simp; omega)]
  have h3 := Q71 off (agF m).toList 0 (agF l)
  rw [show (agF m).zipIdx.foldl (fun cs (x : Value × Nat) => cs.setIfInBounds (off + x.2) x.1) (agF l) = ((agF m).toList.zipIdx 0).foldl (fun cs (x : Value × Nat) => cs.setIfInBounds (off + x.2) x.1) (agF l) by rw [← Array.foldl_toList, Array.toList_zipIdx], h3, Nat.add_zero, hs]
  exact h
theorem J3q {place : Nat → Option (Nat × Nat)} {l : List Fd} : Instr.fill place (agF l) [] = some (agF l) := rfl
def plc (P : Program) (t : TypeId) : Option (List (Nat × Nat)) := match P.underlying t with
  | some (.struct fs) => fs.toList.mapM fun f => (P.info? f.type).map fun i => (f.offset, i.size)
  | _ => none
def zer (P : Program) (t : TypeId) : Option (Option (Array Value)) := (P.info? t).map fun i => i.zero.map (·.cells)
theorem Z5s {P : Program} {t : TypeId} {zs l : List Fd} {pl : List (Nat × Nat)} {parts : List (Nat × Value)} (hz : zer P t = some (some (agF zs))) (hp : plc P t = some pl) (hf : Instr.fill (pl.toArray[·]?) (agF zs) parts = some (agF l)) : P.built t parts = some (agF l) := by
  unfold zer at hz
  unfold plc at hp
  unfold Program.built
  cases hi : P.info? t with
  | none => simp [hi] at hz
  | some it =>
    cases hu : P.underlying t with
    | none => simp [hu] at hp
    | some d =>
      cases d <;> try (simp [hu] at hp; done)
      rename_i fs
      cases hq : it.zero with
      | none => simp [hi, hq] at hz
      | some z =>
        have hz' : z.cells = agF zs := by simpa [hi, hq] using hz
        simp only [hu] at hp
        simp only [hq, hp, hz']
        exact hf
theorem J2m {P : Program} {a : Act} {W : World} {o : Oper} {t : TypeId} {xs : List (Nat × Operand)} {parts : List (Nat × Value)} {zs l : List Fd} {pl : List (Nat × Nat)} (ho : o.op = .build t xs.toArray) (hx : xs.map (fun x => (x.1, a.eval x.2)) = parts) (hz : zer P t = some (some (agF zs))) (hp : plc P t = some pl) (hf : Instr.fill (pl.toArray[·]?) (agF zs) parts = some (agF l)) :
    (execOp a.eval o).run P W = .ok (.value (.agg (agF l))) W := by
  have hb := Z5s hz hp hf
  unfold execOp
  simp only [ho, List.map_toArray, Sem.run_bind, run_build W t _ _ (show P.built t (xs.map fun x => (x.1, a.eval x.2)).toArray.toList = _ by rw [hx]; exact hb), Result.andThen_ok]
  rfl
/-! ### a text copied over a part that is nought -/
theorem V3b (n X : Nat) : (J0 .u8 n (Q3 X)).toList = bs8 (lb n X) := by rw [J26, ← J6u]
section
variable {ops : Array Oper} {Q : Exit → Act → World → Prop} {F : List Nat} {w : World} {H H' : List As} {r : List Oper} {o : Oper} {a a' : Act}
end
section
variable {P : Program} {ops : Array Oper} {k : Wk} {K : Act → World → Prop} {t : Tr} {G : List As} {F : List Nat} {w : World} {H : List As} {l : List Oper} {o : Oper} {a a' : Act}
theorem Mk (i : Nat) {b j : Nat} {cs sub : Array Value} {t ty : TypeId} {x : Operand} (h : wpM P ops k F w H l a') (hi : H[i]? = some (.b b cs t) := by exact rfl) (hw : Region.wanted o (yielded ops a.tmps) = true := by exact rfl) (ho : o.op = .load ty x := by exact rfl) (hx : a.eval x = .pointer (some ⟨b, j, none⟩) := by exact rfl) (hs : ∀ i v, sub[i]? = some v → cs[j + i]? = some v)
    (hk : (P.underlying ty).map TypeDesc.isRow = some true := by as_aux_lemma => kernel_rfl) (hz : (P.info? ty).map (·.size) = some sub.size := by first | (rw [J1]; kernel_rfl) | (rw [J4]; kernel_rfl)) (hp : a.put o.dst (.agg sub) = a' := by first | exact pl (by dsimp only [mB, mC]; first | done | exact rfl) | exact pn | exact rfl) : wpM P ops k F w H (o :: l) a := Ml i hs h hi hw ho hx hk hz hp
theorem Tk (n : Nat) {i b j : Nat} {cs sub : Array Value} {tt ty : TypeId} {x : Operand} (h : wpP P ops K F w G H t a') (hi : G[n]? = some (.b b cs tt) := by exact rfl) (hoo : ops.toList[i]? = some o := by exact rfl) (hw : Region.wanted o (yielded ops a.tmps) = true := by exact rfl) (ho : o.op = .load ty x := by exact rfl) (hx : a.eval x = .pointer (some ⟨b, j, none⟩) := by exact rfl) (hs : ∀ i v, sub[i]? = some v → cs[j + i]? = some v)
    (hk : (P.underlying ty).map TypeDesc.isRow = some true := by as_aux_lemma => kernel_rfl) (hz : (P.info? ty).map (·.size) = some sub.size := by first | (rw [J1]; kernel_rfl) | (rw [J4]; kernel_rfl)) (hp : a.put o.dst (.agg sub) = a' := by first | exact pl (by dsimp only [mB, mC]; first | done | exact rfl) | exact pn | exact rfl) : wpP P ops K F w G H (.q i t) a := Tl n hs h hi hoo hw ho hx hk hz hp
theorem Mq {Q : Exit → Act → World → Prop} {H' : List As} (i : Nat) {g off : Nat} {cells old new : Array Value} {t ty : TypeId} {x y : Operand} (h : wpM P ops (.L Q) F w H' l a') (hi : H[i]? = some (.b g old t) := by exact rfl) (hw : Region.wanted o (yielded ops a.tmps) = true := by exact rfl) (ho : o.op = .store ty x y := by exact rfl)
    (hx : a.eval x = .pointer (some ⟨g, off, none⟩) := by exact rfl) (hy : a.eval y = .agg cells := by exact rfl) (hc : spl old off cells.toList = new) (hz : (P.info? ty).map (·.size) = some cells.size := by first | (rw [J1]; kernel_rfl) | (rw [J4]; kernel_rfl)) (hs : off + cells.size ≤ old.size) (h1 : cells.all (·.oneCell') = true := by exact Z9 _ _ _)
    (hH : H.set i (.b g new t) = H' := by dsimp only [sB, sC]; first | done | exact rfl) (hp : a.put o.dst undef = a' := by first | exact pl (by dsimp only [mB, mC]; first | done | exact rfl) | exact pn | exact rfl) : wpM P ops (.L Q) F w H (o :: l) a := Mr i hc h hi hw ho hx hy hz hs h1 hH hp
end
end

section
def fbR (v : Value) (es : List (List Value)) : List Nat := match v, es with
  | .slice (some a) _ _, _ :: _ => [a.block]
  | _, _ => []
theorem RR.keep {k : Nat} {w W : World} {v : Value} {es : List (List Value)} (h : RR k w v es) (e : ∀ b ∈ fbR v es, W.heap[b]? = w.heap[b]?) : RR k W v es := by
  obtain ⟨A, c, rfl, h2, h0, h3⟩ := h
  refine ⟨A, c, rfl, h2, h0, fun j x hj => ?_⟩
  obtain ⟨g, o, h4, h5⟩ := h3 j x hj
  refine ⟨g, o, h4, fun i y hy => ?_⟩
  subst h4
  have hb : W.heap[g]? = w.heap[g]? := by
    refine e g ?_
    cases es with
    | nil => simp at hj
    | cons f fs => exact List.mem_singleton.2 rfl
  rw [← h5 i y hy]
  unfold World.cell?
  rw [hb]
theorem RR.pholds {k : Nat} {w : World} {v : Value} {es : List (List Value)} (hk : 0 < k) (hes : ∀ e ∈ es, e.length = k) (h : RR k w v es) : (As.p (fbR v es) (fun W => RR k W v es)).holds w := by
  refine ⟨h, fun b hb => ?_, fun W _ e => h.keep e⟩
  obtain ⟨A, c, rfl, h2, h0, h3⟩ := h
  cases A with
  | none => cases es <;> cases hb
  | some a =>
    cases es with
    | nil => cases hb
    | cons f fs =>
      obtain ⟨g, o, h4, h5⟩ := h3 0 f rfl
      have hf := hes f (by simp)
      have h6 := h5 0 f[0] (List.getElem?_eq_getElem (by omega))
      rw [List.mem_singleton.1 hb, Option.some.inj h4]
      have h7 := World.block_lt_of_cell? w _ h6
      exact h7
theorem Y06 {t : TypeId} {k : Nat} {w : World} {v : Value} {es : List (List Value)} (h : Row t k w v es) : ∀ b ∈ fbR v es, b ∈ v.ownBlock.toList := fun b hb => by
  rcases h.1.2 with ⟨rfl, _⟩ | ⟨g, G, D, rfl, _⟩
  · cases es <;> cases hb
  · cases es with
    | nil => cases hb
    | cons f fs => exact hb
end

section
attribute [local irreducible] wpList U0 wpX
abbrev J0f (x : Nat) : List Value := (J0 .u8 32 (Q3 x)).toList
theorem RR.opf {α : Type} {f : α → List Value} {k : Nat} {w : World} {u : Value} {ls : List α} (h : RR k w u (ls.map f)) : ∃ A c, u = .slice A ls.length c ∧ ls.length ≤ c ∧ Hid (∀ (j : Nat) (x : α), ls[j]? = some x → ∃ g o, A = some ⟨g, o, none⟩ ∧ ∀ (i : Nat) (v : Value), (f x)[i]? = some v → w.cell? ⟨g, o + j * k + i, none⟩ = some v) := by
 obtain ⟨A, c, h1, h2, _, h3⟩ := h
 rw [List.length_map] at h1 h2
 exact ⟨A, c, h1, h2, Lib.hid fun j x hj => h3 j (f x) (by rw [List.getElem?_map, hj]; rfl)⟩
def TXS (W : World) (us : List Value) (ts : List (List UInt8)) : Prop := us.length = ts.length ∧ ∀ (i : Nat) (u : Value) (t : List UInt8), us[i]? = some u → ts[i]? = some t → Sl W u t
def txF : List Value → List (List UInt8) → List Nat
 | u :: us, t :: ts => (sb u t).toList ++ txF us ts
 | _, _ => []
theorem mem_txF {k : Nat} : ∀ {us : List Value} {ts : List (List UInt8)}, k ∈ txF us ts ↔ ∃ (i : Nat) (u : Value) (t : List UInt8), us[i]? = some u ∧ ts[i]? = some t ∧ sb u t = some k
 | [], _ => ⟨fun h => (by cases h), fun ⟨i, u, t, h, _⟩ => by simp at h⟩
 | _ :: _, [] => ⟨fun h => (by cases h), fun ⟨i, u, t, _, h, _⟩ => by simp at h⟩
 | u :: us, t :: ts => by
  show k ∈ (sb u t).toList ++ txF us ts ↔ _
  rw [List.mem_append, mem_txF]
  constructor
  ·
   rintro (h | ⟨i, v, s, h1, h2, h3⟩)
   ·
    exact ⟨0, u, t, rfl, rfl, As.mem_toList h⟩
   ·
    exact ⟨i + 1, v, s, h1, h2, h3⟩
  ·
   rintro ⟨i, v, s, h1, h2, h3⟩
   cases i with
   | zero =>
    obtain rfl : u = v := by simpa using h1
    obtain rfl : t = s := by simpa using h2
    exact .inl (by rw [h3]; simp)
   | succ i => exact .inr ⟨i, v, s, by simpa using h1, by simpa using h2, h3⟩
theorem Z0r {w W : World} {v : Value} {l : List UInt8} (h : Sl w v l) (e : ∀ b, sb v l = some b → W.heap[b]? = w.heap[b]?) : Sl W v l := by
 obtain ⟨A, c, rfl, h1, h2, h0, h3⟩ := h
 refine ⟨A, c, rfl, h1, h2, h0, fun j x hj => ?_⟩
 obtain ⟨ad, hA, hc⟩ := h3 j x hj
 refine ⟨ad, hA, ?_⟩
 have hb : sb (.slice A l.length c) l = some ad.block := by
  unfold sb
  rw [if_neg (by rintro rfl; simp at hj), hA]; rfl
 have h4 := e _ hb
 rw [← hc]
 exact World.cell?_of_block (a := ad.add j) (w := w) (w' := W) (by rw [show (ad.add j).block = ad.block from by unfold Addr.add; split <;> rfl]; exact h4)
theorem TXS.holds {W : World} {us : List Value} {ts : List (List UInt8)} (h : TXS W us ts) : (As.p (txF us ts) (fun W => TXS W us ts)).holds W :=
 ⟨h, fun k hk => by obtain ⟨i, u, t, h1, h2, h3⟩ := mem_txF.1 hk; exact Sl.lt (h.2 i u t h1 h2) k h3,
 fun W' _ e => ⟨h.1, fun i u t h1 h2 => Z0r (h.2 i u t h1 h2) fun b hb => e b (mem_txF.2 ⟨i, u, t, h1, h2, hb⟩)⟩⟩
namespace SH
variable {F : List Nat} {w W W' : World} {H X : List As} {i j : Nat}
theorem addp {f : List Nat} {K : World → Prop} (h : SH F w W H) (hz : (As.p f K).holds W) (hf : ∀ k ∈ f, ∃ (i : Nat) (x : As), H[i]? = some x ∧ x.mv = false ∧ k ∈ x.foot) : SH F w W (.p f K :: H) := by
 refine ⟨h.off, fun y hy => ?_, List.pairwise_cons.2 ⟨fun y hy => ⟨fun h => by (cases h), fun hm k hk G => ?_⟩, h.ap⟩, fun y hy hm k hk J => ?_⟩
 ·
  rcases List.mem_cons.1 hy with rfl | hy
  ·
   exact hz
  exact h.all y hy
 ·
  obtain ⟨i, x, hi, hx, D⟩ := hf k G
  obtain ⟨j, hj, e⟩ := List.mem_iff_getElem.1 hy
  have hj' : H[j]? = some y := by rw [List.getElem?_eq_getElem hj, e]
  have hn : j ≠ i := fun e => by subst e; rw [hi] at hj'; obtain rfl := Option.some.inj hj'; rw [hx] at hm; cases hm
  have h1 := (h.ap2 hj' hi hn).1 hm
  cases x with
  | t T K => cases D
  | _ => exact h1 k hk D
 rcases List.mem_cons.1 hy with rfl | hy
 ·
  cases hm
 exact h.old y hy hm k hk J
end SH
theorem J78 {P : Program} {ops : Array Oper} {k : Wk} {F : List Nat} {w : World} {H : List As} {l : List Oper} {a : Act} {p : Prop} (hp : ∀ W, SH F w W H → p) (h : p → wpM P ops k F w H l a) : wpM P ops k F w H l a := fun W hS => h (hp W hS) W hS
theorem Q28 {P : Program} {a : Act} {o : Oper} {x : Operand} {tS t : TypeId} {W : World} {A : Option Addr} {n c : Nat} (ho : o.op = .call { callee := .builtin .len, args := #[x], argTypes := #[tS] }) (hx : a.eval x = .slice A n c) (ht : P.underlying tS = some (.slice t)) : (execOp a.eval o).run P W = .ok (.value (.int .i64 (n : Int))) W := by
 unfold execOp
 simp only [ho, resolve, invoke, builtin, Sem.run_bind, Sem.run_pure, Result.andThen_ok, List.map_toArray, List.map_cons, List.map_nil, hx]
 simp [Builtin.len_, run_underlying ht, goInt, Sem.run_bind]
theorem J58 {P : Program} {α : Type} {f : FuncId} {args : Array Value} {F : List Nat} {w W : World} {H : List As} {V : α → Value} {X : α → As} (hS : SH F w W H) (hc : Calls P f args W fun e W' => ∃ x, e = .returned (V x) ∧ SH [] W W' [X x]) (ht : ∀ x, (X x).mv = true ∧ H.all (SH.tyOk (X x)) = true) :
  Calls P f args W fun e W' => ∃ x, e = .returned (V x) ∧ SH F w W' (X x :: H) :=
 hc.mono fun e W' ⟨x, h1, h2⟩ => ⟨x, h1, SH.frame (L := []) (L' := [X x]) (R := H) hS h2 ⟨.inr (ht x), trivial⟩⟩
theorem Q8p {P : Program} {fn : Func} {p q : Tmp} {ty t : TypeId} {tmps : Array Value} {w : World} {g : Nat} {cs : Array Value} {v : Value} (h : fn.results = #[.cell p ty, .tmp q])
  (hp : tmps.getD p undef = .pointer (some ⟨g, 0, none⟩)) (hq : tmps.getD q undef = v) (hB : Blk w g cs t) (hk : (P.underlying ty).map TypeDesc.isRow = some true) (hi : (P.info? ty).map (·.size) = some cs.size) :
  (results fn tmps).run P w = .ok (.tuple #[.agg cs, v]) w := by
 cases hu : P.underlying ty with
 | none => simp [hu] at hk
 | some d =>
  have hd : d.isRow = true := by simpa [hu] using hk
  have hp' : tmps[p]?.getD undef = .pointer (some ⟨g, 0, none⟩) := by simpa using hp
  have hq' : tmps[q]?.getD undef = v := by simpa using hq
  simp [results, h, hp', hq', asAddr, run_loadVar_row w g t ty cs _ d hB hu (by cases d <;> simp_all [TypeDesc.isRow]) hi]
theorem Row.form {α : Type} {f : α → List Value} {ls : List α} {t : TypeId} {k : Nat} {w : World} {v : Value} (h : Row t k w v (ls.map f)) : ∃ A c, v = .slice A ls.length c := by
 obtain ⟨A, c, h1, _⟩ := RR.opf h.rr
 exact ⟨A, c, h1⟩
end

section
open Go.ChangeShapes Go.WideShapes Go.ChangeAt Go.RowKit Go.Deep
theorem own : ownKnob Tryz.prog.godebug = none := by kernel_rfl
theorem Q54 : laidOutB Tryz.prog = true := by kernel_rfl
theorem Y0e : Tryz.prog.cellsOf 5 = 1 := by kernel_rfl
theorem Y62 {cs : List Value} {o s o' : Nat} (h : o' = o + s) : cs.drop o = (cs.drop o).take s ++ cs.drop o' := by
  subst h; rw [← List.drop_drop, List.take_append_drop]
section
variable {H : Type} {enc : TypeId × Value → H} {W : World} {base : Nat} {sp : Nat → Bool} {held : Bool}
theorem Y9k {t : TypeId} (hr : Tryz.prog.readableRec t = true) (hrow : t < Tryz.prog.types.size) {W W' : World} {sp' : Nat → Bool} {v : Value} {d : DataW H}
    (h : DataW.Trod enc Tryz.prog W 0 (fun _ => true) true t v d []) : DataW.Trod enc Tryz.prog W' 0 sp' true t v d [] :=
  WideElems.Trod_stays Q54 hr hrow h (fun _ hp => by cases hp) (fun _ hp => by cases hp)
theorem Q8r {fuel : Nat} {t e : TypeId} {n : Nat} {cs : List Value} {x : DataW H × List MemPlace} (ht : Tryz.prog.underlying t = some (.array n e)) (he : Tryz.prog.underlying e = some (.int .u8)) (hc : Tryz.prog.cellsOf e = 1) (hct : Tryz.prog.cellsOf t = n)
    (h : DataW.trod enc Tryz.prog W base sp held fuel t cs = some x) : ∃ S : List UInt8, cs = bs8 S ∧ S.length = n := by
  obtain ⟨xs, m, _, _, hl, G, hg⟩ := DataW.trod_array ht h
  rw [hct] at hl
  have D : ∀ i, i < n → ∃ c : UInt8, cs[i]? = some (.int .u8 (c.toNat : Int)) := by
    intro i hi
    have h1 := hg i hi
    rw [hc, Nat.mul_one, List.getElem?_eq_getElem (by omega)] at h1
    obtain ⟨z, hz, _, hw⟩ := DataW.trod_int he h1
    have hb := bounds_u8 hw
    have h0 := congrArg (fun l : List Value => l[0]?) hz
    rw [List.getElem?_take_of_lt (by omega), List.getElem?_drop] at h0
    refine ⟨UInt8.ofNat z.toNat, ?_⟩
    have e : ((UInt8.ofNat z.toNat).toNat : Int) = z := by
      rw [UInt8.toNat_ofNat']; omega
    rw [e]
    simpa using h0
  refine ⟨(List.range n).map fun i => if h : i < n then Classical.choose (D i h) else 0, ?_, by simp⟩
  apply List.ext_getElem?
  intro i
  by_cases hi : i < n
  · have := Classical.choose_spec (D i hi)
    rw [this]
    simp [bs8, hi]
  rw [List.getElem?_eq_none (by omega), List.getElem?_eq_none (by simp [bs8]; omega)]
theorem J9z {fuel : Nat} {t : TypeId} {n : Nat} {cs : List Value} {x : DataW H × List MemPlace} (ht : Tryz.prog.underlying t = some (.array n 5)) (hct : Tryz.prog.cellsOf t = n)
    (h : DataW.trod enc Tryz.prog W base sp held fuel t cs = some x) : ∃ X : Nat, X < 2 ^ (8 * n) ∧ cs = (J0 .u8 n (Q3 X)).toList := by
  obtain ⟨L, rfl, hl⟩ := Q8r ht Tryz.underlying5 Y0e hct h
  exact ⟨le L, by rw [← hl]; exact Q6f L, by rw [V3b, Q8h hl]⟩
theorem Y63 {fuel : Nat} {t : TypeId} {cs : List Value} {x : DataW H × List MemPlace} (ht : Tryz.prog.underlying t = some (.int .i64)) (h : DataW.trod enc Tryz.prog W base sp held fuel t cs = some x) : ∃ n : Int, (-9223372036854775808 ≤ n ∧ n < 9223372036854775808) ∧ cs = [.int .i64 n] := by
  obtain ⟨n, hn, _, hw⟩ := DataW.trod_int ht h
  exact ⟨n, by have := bounds_i64 hw; omega, hn⟩
theorem Y64 {r : Reach} {b0 : Nat} {v : Value} {d : DataW H} {ps : List MemPlace} (hval : Value.okWide Tryz.prog W r b0 3 v) (hd : DataW.Trod enc Tryz.prog W base sp held 3 v d ps) : ∃ n : Int, v = .int .i64 n ∧ ps = [] ∧ (-9223372036854775808 ≤ n ∧ n < 9223372036854775808) := by
  obtain ⟨n, h1, _, hp, hw⟩ := open_int Tryz.underlying3 hval hd
  exact ⟨n, h1, hp, by have := bounds_i64 hw; omega⟩
theorem J96 {fuel : Nat} {cs : List Value} {x : DataW H × List MemPlace} (h : DataW.trod enc Tryz.prog W base sp held fuel 47 cs = some x) : ∃ (n1 : Int) (X2 : Nat) (X3 : Nat), (-9223372036854775808 ≤ n1 ∧ n1 < 9223372036854775808) ∧ X2 < 2 ^ (8 * 32) ∧ X3 < 2 ^ (8 * 64) ∧ cs = fcs [.c (.int .i64 n1), .a 32 X2, .a 64 X3] := by
  obtain ⟨xs, n, _, _, hl, M, hg⟩ := DataW.trod_struct Tryz.underlying47 h
  rw [show Tryz.prog.cellsOf 47 = 97 by kernel_rfl] at hl
  have N : xs.length = 3 := M
  have g0 : DataW.trod enc Tryz.prog W base sp held n 3 ((cs.drop 0).take (Tryz.prog.cellsOf 3)) = xs[0]? := hg 0 _ rfl
  rw [show Tryz.prog.cellsOf 3 = 1 by kernel_rfl, List.getElem?_eq_getElem (by omega)] at g0
  replace g0 : DataW.trod enc Tryz.prog W base sp held n 3 ((cs.drop 0).take 1) = some (xs[0]'(by omega)) := g0
  obtain ⟨n1, J, e0⟩ := Y63 Tryz.underlying3 g0
  have g1 : DataW.trod enc Tryz.prog W base sp held n 23 ((cs.drop 1).take (Tryz.prog.cellsOf 23)) = xs[1]? := hg 1 _ rfl
  rw [show Tryz.prog.cellsOf 23 = 32 by kernel_rfl, List.getElem?_eq_getElem (by omega)] at g1
  replace g1 : DataW.trod enc Tryz.prog W base sp held n 23 ((cs.drop 1).take 32) = some (xs[1]'(by omega)) := g1
  obtain ⟨X2, G, e1⟩ := J9z Tryz.underlying23 (by kernel_rfl) g1
  have g2 : DataW.trod enc Tryz.prog W base sp held n 45 ((cs.drop 33).take (Tryz.prog.cellsOf 45)) = xs[2]? := hg 2 _ rfl
  rw [show Tryz.prog.cellsOf 45 = 64 by kernel_rfl, List.getElem?_eq_getElem (by omega)] at g2
  replace g2 : DataW.trod enc Tryz.prog W base sp held n 45 ((cs.drop 33).take 64) = some (xs[2]'(by omega)) := g2
  obtain ⟨X3, D, e2⟩ := J9z Tryz.underlying45 (by kernel_rfl) g2
  refine ⟨n1, X2, X3, J, G, D, ?_⟩
  rw [show cs = cs.drop 0 from rfl]
  rw [Y62 (cs := cs) (o := 0) (s := 1) (o' := 1) rfl, e0]
  conv => lhs; rw [Y62 (cs := cs) (o := 1) (s := 32) (o' := 33) rfl, e1]
  conv => lhs; rw [Y62 (cs := cs) (o := 33) (s := 64) (o' := 97) rfl, e2]
  rw [List.drop_eq_nil_of_le (Nat.le_of_eq hl)]
  rfl
theorem J97 {r : Reach} {b0 : Nat} {v : Value} {d : DataW H} {ps : List MemPlace} (hval : Value.okWide Tryz.prog W r b0 47 v) (hd : DataW.Trod enc Tryz.prog W base sp held 47 v d ps) : ∃ (n1 : Int) (X2 : Nat) (X3 : Nat), (-9223372036854775808 ≤ n1 ∧ n1 < 9223372036854775808) ∧ X2 < 2 ^ (8 * 32) ∧ X3 < 2 ^ (8 * 64) ∧ v = .agg (agF [.c (.int .i64 n1), .a 32 X2, .a 64 X3]) := by
  obtain ⟨cs, rfl, _⟩ := okWide_struct Tryz.underlying47 hval
  obtain ⟨D, hf⟩ := hd
  obtain ⟨n1, X2, X3, h0, h1, h2, e⟩ := J96 hf
  exact ⟨n1, X2, X3, h0, h1, h2, by rw [show cs = agF [.c (.int .i64 n1), .a 32 X2, .a 64 X3] from Array.toList_inj.1 e]⟩
end
end

section
open Go.RowKit Go.ChangeShapes Go.WideShapes Go.ChangeAt

end
end Go.Proofs.YtejkmhgkkibafaaGreatDoor
