/- Contracts and plain laws that superChecks_holds rests on. Conditions: the variables' cells hold the numbers of the program's text. -/
import Derived.Test.YtejkmhgkkibafaaGreatDoorGc
import Derived.Lib.AppendZeros
import Derived.Test.YtejkmhgkkibafaaGreatDoorHa
import Derived.Test.YtejkmhgkkibafaaGreatDoorJ6
import Derived.Test.YtejkmhgkkibafaaGreatDoorJ3
open Go.RowKit
set_option linter.unusedSimpArgs false
set_option linter.unusedVariables false
namespace Go.Proofs.YtejkmhgkkibafaaGreatDoor
section
theorem Y22 (n : Nat) : (Builtin.zeroCells (Value.int .u8 0).cells n).toList = bs8 (List.replicate n 0) := by
  simp [Builtin.zeroCells, bs8, Value.cells, List.map_replicate, Nat.mod_one, List.map_const']
theorem J7h {P : Program} (w : World) (t tn ty e : TypeId) (i : TypeInfo) (k : IntKind) (ht : P.underlying t = some (.slice e)) (htn : P.underlying tn = some (.int k)) (hi : P.info? e = some i) (hz : i.zero = some (.int .u8 0)) (hsz : i.size = 1) (hby : i.bytes = 1)
    (v : Value) (n : Nat) (xs : List Value) (hown : w.ownsRow 0 e 1 v n xs) (m : Nat) (hm : 0 < m) (hlen : n + m ≤ 140737488355328) :
    ∃ v' w', (Builtin.append_ #[t, tn] ty #[v, .int .i64 (m : Int)]).run P w = .ok v' w' ∧ w'.ownsRow 0 e 1 v' (n + m) (xs ++ bs8 (List.replicate m 0)) ∧ w.grownBy w' v.ownBlock ∧ (v'.ownBlock = v.ownBlock ∨ v'.ownBlock = some w.heap.size) := by
  have hlen' : (xs ++ bs8 (List.replicate m 0)).length = (n + m) * 1 := by rw [List.length_append, hown.1, J02, List.length_replicate]; omega
  have N : ∀ (old : Nat), old < n + m → ∀ (Z : Option Nat),
      (w.drew.alloc (.cells (xs.toArray ++ (bs8 (List.replicate m 0)).toArray ++ Builtin.zeroCells (Value.int .u8 0).cells (grownCap w (n + m) old e - (n + m))) e)).ownsRow 0 e 1
        (.slice (some ⟨w.heap.size, 0, none⟩) (n + m) (grownCap w (n + m) old e)) (n + m) (xs ++ bs8 (List.replicate m 0)) ∧
      w.grownBy (w.drew.alloc (.cells (xs.toArray ++ (bs8 (List.replicate m 0)).toArray ++ Builtin.zeroCells (Value.int .u8 0).cells (grownCap w (n + m) old e - (n + m))) e)) Z := by
    intro old ho Z
    have β := grownCap_ge w (n + m) old e
    have V : grownCap w (n + m) old e ≤ maxLen := grownCap_le_maxLen w (n + m) old e (by unfold maxLen; omega)
    refine ⟨⟨hlen', .inr ⟨w.heap.size, _, _, rfl, Nat.zero_le _, heap_alloc_new w.drew _, β, V, ?_, ?_⟩⟩, ⟨rfl, rfl, rfl, by simp, fun k hk _ => _root_.Go.heap_alloc_old w.drew _ (by simpa using hk)⟩⟩
    · simp only [Array.size_append, List.size_toArray, size_zeroCells, hown.1, J02, List.length_replicate, Value.cells, List.size_toArray]
      simp
      omega
    · simp only [Array.toList_append, List.append_assoc]
      rw [← List.append_assoc, ← hlen']
      exact List.take_left
  have hw : IntKind.i64.wrap (m : Int) = m := by rw [IntKind.wrap_i64]; omega
  have R : ¬ ((m : Int) < 0) := by omega
  have U : ¬ (281474976710656 < (m : Int)) := by omega
  have T : Builtin.zeroCells (Value.int .u8 0).cells m = (bs8 (List.replicate m 0)).toArray := Array.toList_inj.1 (Y22 m)
  rcases hown.2 with ⟨rfl, rfl⟩ | ⟨g, D, M, rfl, _, hg, ε, V, δ, X⟩
  · have hx : xs = [] := List.eq_nil_of_length_eq_zero (by simpa using hown.1)
    subst hx
    have hr   := Lib.run_append_nil_zeros (P := P) w t tn ty e i (.int .u8 0) .i64 k ht htn hi hz m hm (by omega) (by omega) (by rw [hby]; omega)
    have G := N 0 (by omega) (Value.ownBlock (.slice none 0 0))
    simp only [Nat.zero_add, List.nil_append, Array.empty_append] at G ⊢
    rw [T] at hr
    exact ⟨_, _, hr, by simpa using G.1, G.2, .inr rfl⟩
  by_cases J : n + m ≤ D
  · have α := run_storeCells_at P g (n * 1) e (bs8 (List.replicate m 0)) 0 M w hg (by rw [J02, List.length_replicate, δ]; simp; omega) (Q4j _)
    simp only [Nat.add_zero, Nat.mul_one] at α
    refine ⟨.slice (some ⟨g, 0, none⟩) (n + m) D, w.setRow g (M.toList.take n ++ bs8 (List.replicate m 0) ++ M.toList.drop (n + (bs8 (List.replicate m 0)).length)).toArray, ?_, ?_, ?_, .inl rfl⟩
    · have S : m ≠ 0 := by omega
      simp [Builtin.append_, run_underlying ht, run_underlying htn, sizeOf, typeInfo, zeroValue, hi, hz, asInt, asIntOf, hw, R, hby, U, hsz, S, J, T, Addr.add_lit, α]
    · refine ⟨hlen', .inr ⟨g, D, _, rfl, Nat.zero_le _, setRow_heap w g M _ e _ hg, J, V, ?_, ?_⟩⟩
      · simp only [List.size_toArray, List.length_append, List.length_take, List.length_drop, Array.length_toList, J02, List.length_replicate]
        omega
      have ht' : M.toList.take n = xs := by simpa using X
      rw [ht', ← hlen']
      exact List.take_left
    exact ⟨rfl, rfl, rfl, by simp, fun k _ hk => setRow_other w g k _ (fun e => hk (by simp [Value.ownBlock, e]))⟩
  have Y : ∀ j u, xs[j]? = some u → w.cell? ((⟨g, 0, none⟩ : Addr).add j) = some u := hown.cells (g := g) rfl
  have γ := run_firstCells_some (P := P) w.drew 1 n ⟨g, 0, none⟩ n D xs hown.1 (by simpa using Y)
  have G := N D (by omega) (Value.ownBlock (.slice (some ⟨g, 0, none⟩) n D))
  have h63' : ¬ (9223372036854775807 < ((n : Int) + (m : Int))) := by omega
  have hf := growslice_fits (need := n + m) (old := D) (bytes := 1) (by omega) (by omega)
  have h48' : ¬ (281474976710656 < Builtin.nextslicecap (n + m) D) := by omega
  refine ⟨_, _, ?_, G.1, G.2, .inr rfl⟩
  have S : m ≠ 0 := by omega
  simp [Builtin.append_, run_underlying ht, run_underlying htn, sizeOf, typeInfo, zeroValue, hi, hz, asInt, asIntOf, hw, R, hby, U, hsz, S, J, h63', h48', Question.forced, T, γ, newRow, grownCap, Array.append_assoc]
  congr 2
  simp [← List.append_toArray]
theorem Q7q {ops : Array Oper} {Q : Exit → Act → World → Prop} {w : World} {l : List Oper} {o : Oper} {a : Act} {s x : Operand} {v : Value} {xs : List UInt8} {m : Nat} (hm : 0 < m) (hw : Region.wanted o (yielded ops a.tmps) = true)
    (ho : o.op = .call { callee := .builtin .append, args := #[s, x], argTypes := #[22, 3] }) (hs : a.eval s = v) (hx : a.eval x = .int .i64 (m : Int)) (hown : Own w v xs) (hlen : xs.length + m ≤ 140737488355328)
    (h : ∀ v' W, Own W v' (xs ++ List.replicate m 0) → Off v.ownBlock.toList w W → Of v'.ownBlock v.ownBlock w.heap.size → wpList Tryz.prog ops Q l (a.put o.dst v') W) : wpList Tryz.prog ops Q (o :: l) a w := by
  obtain ⟨i, hi, hz, G, J⟩ := info_parts J68
  obtain ⟨v', W, D, h1, h2, h3⟩ := J7h (P := Tryz.prog) w 22 3 o.type 5 i .i64 Tryz.underlying22 Tryz.underlying3 hi hz G J v xs.length (bs8 xs) hown m hm hlen
  refine J7r hw (v := v') (W := W) ?_ (h v' W ?_ (J9s h2) (Z0d h3))
  · unfold execOp
    simp only [ho, resolve, invoke, builtin, Sem.run_bind, Sem.run_pure, Result.andThen_ok, List.map_toArray, List.map_cons, List.map_nil, hs, hx, D]
  unfold Own; rw [List.length_append, J4r, List.length_replicate]; exact h1
end

section

section
variable {w : World} {o : Oper} {a : Act}
theorem Q5z {P : Program} {t e : TypeId} {k kk : IntKind} {m j : Nat} {f : Nat → Int} {x y : Operand} (hj : j < m) (ht : P.underlying t = some (.array m e)) (he : (P.info? e).map (·.size) = some 1) (hg : (isAgg e).run P w = .ok false w) (ho : o.op = .index t x y) (hx : a.eval x = .agg (J0 kk m f)) (hy : a.eval y = .int k (j : Int)) :
    (execOp a.eval o).run P w = .ok (.value (.int kk (f j))) w := by
  cases hq : P.info? e with
  | none => simp [hq] at he
  | some i =>
    have hs : i.size = 1 := by simpa [hq] using he
    have hp := J3 kk m f j hj
    simp [execOp, ho, hx, hy, Instr.index, asIntOf, part, run_underlying ht, Sem.run_bind, sizeOf, typeInfo, hq, hs, hj, hg, hp]
end
def J8c : Value → Nat
  | .slice _ n _ => n
  | _ => 0
theorem Z1k {w : World} {v : Value} {l : List UInt8} (h : Own w v l) : J8c v = l.length := by
  obtain ⟨A, c, rfl, _⟩ := h.len
  rfl
def u8 (n : Nat) : UInt8 := UInt8.ofNat n
theorem Y87 (n : Nat) : (u8 n).toNat = n % 256 := UInt8.toNat_ofNat'
theorem J8r (n : Nat) : ((u8 n).toNat : Int) = (n : Int) % 256 := by rw [Y87]; rfl
def be8 (X : Nat) : List UInt8 := [u8 (X / 72057594037927936), u8 (X / 281474976710656), u8 (X / 1099511627776), u8 (X / 4294967296), u8 (X / 16777216), u8 (X / 65536), u8 (X / 256), u8 X]
def w8 (x : Int) : Int := IntKind.wrap .u8 x
theorem Q7p (ps : List (List UInt8)) (i : Nat) : (ps.take i).flatten.length ≤ ps.flatten.length := by
  have : ps.flatten = (ps.take i).flatten ++ (ps.drop i).flatten := by rw [← List.flatten_append, List.take_append_drop]
  rw [this, List.length_append]; omega
theorem J81 {ps : List (List UInt8)} {i : Nat} {l : List UInt8} (h : ps[i]? = some l) : (ps.take (i + 1)).flatten = (ps.take i).flatten ++ l := by
  rw [List.take_add_one, h]
  simp
theorem Z1n (L : List UInt8) (X : Nat) : L ++ [u8 (X / 72057594037927936)] ++ [u8 (X / 281474976710656)] ++ [u8 (X / 1099511627776)] ++ [u8 (X / 4294967296)] ++ [u8 (X / 16777216)] ++ [u8 (X / 65536)] ++ [u8 (X / 256)] ++ [u8 X] = L ++ be8 X := by
  simp only [be8, List.append_assoc, List.cons_append, List.nil_append]
theorem J5k {w : World} {v : Value} {l : List UInt8} (h : Sl w v l) : J8c v = l.length := by
  obtain ⟨A, c, rfl, _⟩ := h
  rfl
theorem J27 {w : World} {o : Oper} {a : Act} {x : Operand} {p : Int} (ho : o.op = .convert 71 5 x) (hx : a.eval x = .int .u64 p) : (execOp a.eval o).run Tryz.prog w = .ok (.value (.int .u8 (w8 p))) w := by
  simp [execOp, ho, hx, convert, run_underlying Tryz.underlying5, run_underlying Tryz.underlying71, Sem.run_bind, Conv.intToInt, w8]
theorem J32 (X n D : Nat) (h : 2 ^ n = D) : w8 (sr ((X : Nat) : Int) n) = ((u8 (X / D)).toNat : Int) := by
  subst h
  unfold w8 sr
  rw [J8r, IntKind.wrap_u8, Int.natCast_ediv, Int.natCast_pow]
  rfl
theorem Z1l (X : Nat) : w8 (sr ((X : Nat) : Int) 0) = ((u8 X).toNat : Int) := by rw [J32 X 0 1 (by decide), Nat.div_one]
theorem Y20 {w : World} : (isAgg 71).run Tryz.prog w = .ok false w := by
  simp [isAgg, run_underlying Tryz.underlying71, Sem.run_bind]
theorem Y1i (P : List UInt8) (n m : Nat) : bt (P.drop n) m = bt P (n + m) := by
  unfold bt
  simp [List.getD_eq_getElem?_getD, List.getElem?_drop]
theorem Y48 (x : Int) : 0 ≤ w8 x ∧ w8 x < 256 := by unfold w8; rw [IntKind.wrap_u8]; omega
theorem Q3z {P : Program} {w : World} {o : Oper} {a : Act} {x y : Operand} {t t' : TypeId} {k : IntKind} {p : Int} {n : Nat} (hn : n ≤ 64) (ho : o.op = .binOp .shr t x y t') (hx : a.eval x = .int .i64 p) (hy : a.eval y = .int k (n : Int)) : (execOp a.eval o).run P w = .ok (.value (.int .i64 (p / 2 ^ n))) w := by
  have h : min ((n : Int)).toNat IntKind.i64.bits = n := by rw [Int.toNat_natCast]; exact Nat.min_eq_left hn
  simp only [execOp, ho, hx, hy, eqGuard, binOp, Sem.run_bind]
  simp [Op.shift, h, go_sem, Sem.run_bind]
theorem Q51 {w : World} {o : Oper} {a : Act} {x : Operand} {p : Int} (ho : o.op = .convert 3 5 x) (hx : a.eval x = .int .i64 p) : (execOp a.eval o).run Tryz.prog w = .ok (.value (.int .u8 (w8 p))) w := by
  simp [execOp, ho, hx, convert, run_underlying Tryz.underlying5, run_underlying Tryz.underlying3, Sem.run_bind, Conv.intToInt, w8]
theorem Y0b (X : Nat) : w8 ((X : Nat) : Int) = ((u8 X).toNat : Int) := by
  unfold w8
  rw [J8r, IntKind.wrap_u8]
theorem Y0a (X n D : Nat) (h : 2 ^ n = D) : ((X : Nat) : Int) / 2 ^ n = ((X / D : Nat) : Int) := by
  subst h
  rw [Int.natCast_ediv, Int.natCast_pow]
  rfl
section
variable {P : Program} {w : World} {o : Oper} {a : Act} {x y : Operand} {t t' : TypeId} {p q : Int}
theorem Z3v (ho : o.op = .binOp .and t x y t') (hx : a.eval x = .int .i64 p) (hy : a.eval y = .int .i64 q) : (execOp a.eval o).run P w = .ok (.value (.int .i64 (bits .and .i64 p q))) w := by
  simp only [execOp, ho, hx, hy]; rfl
end
end

section
section
variable {w : World} {o : Oper} {a : Act}
theorem Z87 : (Tryz.prog.info? 22).map (·.size) = some 1 := by kernel_rfl
theorem Z1j {x y : Operand} {k : IntKind} {ad : Addr} {n c j : Nat} (hj : j < n) (ho : o.op = .indexAddr 113 x y) (hx : a.eval x = .slice (some ad) n c) (hy : a.eval y = .int k (j : Int)) :
    (execOp a.eval o).run Tryz.prog w = .ok (.value (.pointer (some (ad.add j)))) w := by
  have h1 := Z87
  cases hq : Tryz.prog.info? 22 with
  | none => simp [hq] at h1
  | some i =>
    have hs : i.size = 1 := by simpa [hq] using h1
    simp [execOp, ho, hx, hy, Instr.indexAt, asIntOf, run_underlying Tryz.underlying113, Sem.run_bind, sizeOf, typeInfo, hq, hs, hj]
end
end
end Go.Proofs.YtejkmhgkkibafaaGreatDoor

namespace Go.Proofs.YtejkmhgkkibafaaGreatDoor.S8
section
end

section

section
variable {w : World} {o : Oper} {a : Act}
end
section
variable {P : Program} {w : World} {o : Oper} {a : Act} {x y : Operand} {t t' : TypeId} {p q : Int}
end
end

section

def zc (n : Nat) : Nat := (239 - n % 128) % 128
def Z3 (l : List UInt8) : List UInt8 := l ++ [128] ++ List.replicate (zc l.length) 0 ++ List.replicate 8 0 ++ be8 (8 * l.length)
def nb (n : Nat) : Nat := (n + 1 + zc n + 16) / 128
theorem J95 (n : Nat) : (n + 1 + zc n) % 128 = 112 ∧ zc n < 128 := by unfold zc; omega
theorem Y4e {n k : Nat} (h : k < zc n) : (n + 1 + k) % 128 ≠ 112 := by unfold zc at h; omega
theorem Q2a (l : List UInt8) : (Z3 l).length = 128 * nb l.length := by
  have h := J95 l.length
  unfold Z3 nb
  simp only [List.length_append, List.length_cons, List.length_nil, List.length_replicate, be8]
  omega
def Hs (P : List UInt8) : Nat → Nat → Int
  | 0 => hf
  | j + 1 => prs (Hs P j) (bt (P.drop (128 * j)))
def ob (H : Nat → Int) (j : Nat) : Int := w8 (sr (H (j / 8)) (8 * (7 - j % 8)))
def Q3e (H : Nat → Int) (n j : Nat) : Int := if j < n then ob H j else 0
theorem Z3d (H : Nat → Int) : Q3e H 0 = fun _ => 0 := by funext j; unfold Q3e; rw [if_neg (by omega)]
theorem Z3e (H : Nat → Int) (i k : Nat) (hk : k < 8) : upd (Q3e H (8 * i + k)) (8 * i + k) (w8 (sr (H i) (8 * (7 - k)))) = Q3e H (8 * i + (k + 1)) := by
  funext j
  unfold upd Q3e
  by_cases h : j = 8 * i + k
  · subst h
    rw [if_pos rfl, if_pos (by omega), ob, show (8 * i + k) / 8 = i by omega, show (8 * i + k) % 8 = k by omega]
  rw [if_neg h]
  by_cases hl : j < 8 * i + k
  · rw [if_pos hl, if_pos (by omega)]
  rw [if_neg hl, if_neg (by omega)]
theorem Z72 (H : Nat → Int) : J0 .u8 64 (Q3e H 64) = J0 .u8 64 (ob H) := K5 _ _ _ _ fun j hj => by unfold Q3e; rw [if_pos hj]
def sm (l : List UInt8) : Nat → Int := ob (Hs (Z3 l) (nb l.length))
theorem Q01 (P : List UInt8) (j : Nat) : List.drop 128 (List.drop (128 * j) P) = List.drop (128 * (j + 1)) P := by
  rw [List.drop_drop]; congr 1
theorem Z3f {w : World} {v : Value} {l : List UInt8} (h : Own w v l) : Sl w v (List.drop (128 * 0) l) := h.sl
end
end Go.Proofs.YtejkmhgkkibafaaGreatDoor.S8
