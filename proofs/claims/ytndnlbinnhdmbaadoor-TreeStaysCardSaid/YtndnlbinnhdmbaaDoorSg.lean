/- Rows of noughts, bytes of numbers, blocks of a sum: what sums of all kinds share. No conditions. -/
import Derived.Test.YtndnlbinnhdmbaaDoorGc
import Derived.Lib.AppendZeros
import Derived.Test.YtndnlbinnhdmbaaDoorHa
set_option linter.unusedSimpArgs false
set_option linter.unusedVariables false
namespace Go.Proofs.YtndnlbinnhdmbaaDoor
open Go.RowKit
set_option linter.unusedSimpArgs false
end Go.Proofs.YtndnlbinnhdmbaaDoor

namespace Go.Proofs.YtndnlbinnhdmbaaDoor
open Go.RowKit

section
variable {w : World} {o : Oper} {a : Act}
theorem sls_size : (Tryd.prog.info? 33).map (·.size) = some 1 := by kernel_rfl
theorem run_ixp {x y : Operand} {k : IntKind} {ad : Addr} {n c j : Nat} (hj : j < n) (ho : o.op = .indexAddr 77 x y) (hx : a.eval x = .slice (some ad) n c) (hy : a.eval y = .int k (j : Int)) :
    (execOp a.eval o).run Tryd.prog w = .ok (.value (.pointer (some (ad.add j)))) w := by
  have h1 := sls_size
  cases hq : Tryd.prog.info? 33 with
  | none => simp [hq] at h1
  | some i =>
    have hs : i.size = 1 := by simpa [hq] using h1
    simp [execOp, ho, hx, hy, Instr.indexAt, asIntOf, run_underlying Tryd.underlying77, Sem.run_bind, sizeOf, typeInfo, hq, hs, hj]
theorem run_ixv {P : Program} {t e : TypeId} {k kk : IntKind} {m j : Nat} {f : Nat → Int} {x y : Operand} (hj : j < m) (ht : P.underlying t = some (.array m e)) (he : (P.info? e).map (·.size) = some 1) (hg : (isAgg e).run P w = .ok false w) (ho : o.op = .index t x y) (hx : a.eval x = .agg (arrK kk m f)) (hy : a.eval y = .int k (j : Int)) :
    (execOp a.eval o).run P w = .ok (.value (.int kk (f j))) w := by
  cases hq : P.info? e with
  | none => simp [hq] at he
  | some i =>
    have hs : i.size = 1 := by simpa [hq] using he
    have hp := arrK_get kk m f j hj
    simp [execOp, ho, hx, hy, Instr.index, asIntOf, part, run_underlying ht, Sem.run_bind, sizeOf, typeInfo, hq, hs, hj, hg, hp]
end
/-- the length that a slice bears -/
def slLen : Value → Nat
  | .slice _ n _ => n
  | _ => 0
/-- the byte of a number -/
def u8 (n : Nat) : UInt8 := UInt8.ofNat n
theorem u8_nat (n : Nat) : (u8 n).toNat = n % 256 := UInt8.toNat_ofNat'
theorem u8_cast (n : Nat) : ((u8 n).toNat : Int) = (n : Int) % 256 := by rw [u8_nat]; rfl
def be8 (X : Nat) : List UInt8 := [u8 (X / 72057594037927936), u8 (X / 281474976710656), u8 (X / 1099511627776), u8 (X / 4294967296), u8 (X / 16777216), u8 (X / 65536), u8 (X / 256), u8 X]
def w8 (x : Int) : Int := IntKind.wrap .u8 x
theorem flat_len (ps : List (List UInt8)) (i : Nat) : (ps.take i).flatten.length ≤ ps.flatten.length := by
  have : ps.flatten = (ps.take i).flatten ++ (ps.drop i).flatten := by rw [← List.flatten_append, List.take_append_drop]
  rw [this, List.length_append]; omega
theorem flat_step {ps : List (List UInt8)} {i : Nat} {l : List UInt8} (h : ps[i]? = some l) : (ps.take (i + 1)).flatten = (ps.take i).flatten ++ l := by
  rw [List.take_add_one, h]
  simp
theorem be8_app (L : List UInt8) (X : Nat) : L ++ [u8 (X / 72057594037927936)] ++ [u8 (X / 281474976710656)] ++ [u8 (X / 1099511627776)] ++ [u8 (X / 4294967296)] ++ [u8 (X / 16777216)] ++ [u8 (X / 65536)] ++ [u8 (X / 256)] ++ [u8 X] = L ++ be8 X := by
  simp only [be8, List.append_assoc, List.cons_append, List.nil_append]
theorem sl_len {w : World} {v : Value} {l : List UInt8} (h : Sl w v l) : slLen v = l.length := by
  obtain ⟨A, c, rfl, _⟩ := h
  rfl
theorem run_c8 {w : World} {o : Oper} {a : Act} {x : Operand} {p : Int} (ho : o.op = .convert 54 5 x) (hx : a.eval x = .int .u64 p) : (execOp a.eval o).run Tryd.prog w = .ok (.value (.int .u8 (w8 p))) w := by
  simp [execOp, ho, hx, convert, run_underlying Tryd.underlying5, run_underlying Tryd.underlying54, Sem.run_bind, Conv.intToInt, w8]
theorem w8_nat (X n D : Nat) (h : 2 ^ n = D) : w8 (sr ((X : Nat) : Int) n) = ((u8 (X / D)).toNat : Int) := by
  subst h
  unfold w8 sr
  rw [u8_cast, IntKind.wrap_u8, Int.natCast_ediv, Int.natCast_pow]
  rfl
theorem w8_nat0 (X : Nat) : w8 (sr ((X : Nat) : Int) 0) = ((u8 X).toNat : Int) := by rw [w8_nat X 0 1 (by decide), Nat.div_one]
theorem w8_ok (x : Int) : 0 ≤ w8 x ∧ w8 x < 256 := by unfold w8; rw [IntKind.wrap_u8]; omega
theorem run_shr_i {P : Program} {w : World} {o : Oper} {a : Act} {x y : Operand} {t t' : TypeId} {k : IntKind} {p : Int} {n : Nat} (hn : n ≤ 64) (ho : o.op = .binOp .shr t x y t') (hx : a.eval x = .int .i64 p) (hy : a.eval y = .int k (n : Int)) : (execOp a.eval o).run P w = .ok (.value (.int .i64 (p / 2 ^ n))) w := by
  have h : min ((n : Int)).toNat IntKind.i64.bits = n := by rw [Int.toNat_natCast]; exact Nat.min_eq_left hn
  simp only [execOp, ho, hx, hy, eqGuard, binOp, Sem.run_bind]
  simp [Op.shift, h, go_sem, Sem.run_bind]
theorem run_shr_i0 {P : Program} {w : World} {o : Oper} {a : Act} {x y : Operand} {t t' : TypeId} {k : IntKind} {p : Int} (ho : o.op = .binOp .shr t x y t') (hx : a.eval x = .int .i64 p) (hy : a.eval y = .int k 0) : (execOp a.eval o).run P w = .ok (.value (.int .i64 p)) w := by
  have h := run_shr_i (P := P) (w := w) (n := 0) (by decide) ho hx hy
  simpa using h
theorem run_c8i {w : World} {o : Oper} {a : Act} {x : Operand} {p : Int} (ho : o.op = .convert 3 5 x) (hx : a.eval x = .int .i64 p) : (execOp a.eval o).run Tryd.prog w = .ok (.value (.int .u8 (w8 p))) w := by
  simp [execOp, ho, hx, convert, run_underlying Tryd.underlying5, run_underlying Tryd.underlying3, Sem.run_bind, Conv.intToInt, w8]
theorem w8_natd (X D : Nat) : w8 (((X / D : Nat) : Int)) = ((u8 (X / D)).toNat : Int) := by
  unfold w8
  rw [u8_cast, IntKind.wrap_u8]
theorem w8_natx (X : Nat) : w8 ((X : Nat) : Int) = ((u8 X).toNat : Int) := by
  unfold w8
  rw [u8_cast, IntKind.wrap_u8]
theorem shr_nat (X n D : Nat) (h : 2 ^ n = D) : ((X : Nat) : Int) / 2 ^ n = ((X / D : Nat) : Int) := by
  subst h
  rw [Int.natCast_ediv, Int.natCast_pow]
  rfl
section
variable {P : Program} {w : World} {o : Oper} {a : Act} {x y : Operand} {t t' : TypeId} {p q : Int}
theorem run_shl_i {k : IntKind} {n : Nat} (hn : n ≤ 64) (ho : o.op = .binOp .shl t x y t') (hx : a.eval x = .int .i64 p) (hy : a.eval y = .int k (n : Int)) : (execOp a.eval o).run P w = .ok (.value (.int .i64 (IntKind.wrap .i64 (p * 2 ^ n)))) w := by
  have h : min ((n : Int)).toNat IntKind.i64.bits = n := by rw [Int.toNat_natCast]; exact Nat.min_eq_left hn
  simp only [execOp, ho, hx, hy, eqGuard, binOp, Sem.run_bind]
  simp [Op.shift, h, go_sem, Sem.run_bind]
theorem run_and_i (ho : o.op = .binOp .and t x y t') (hx : a.eval x = .int .i64 p) (hy : a.eval y = .int .i64 q) : (execOp a.eval o).run P w = .ok (.value (.int .i64 (bits .and .i64 p q))) w := by
  simp only [execOp, ho, hx, hy]; rfl
theorem run_or_i (ho : o.op = .binOp .or t x y t') (hx : a.eval x = .int .i64 p) (hy : a.eval y = .int .i64 q) : (execOp a.eval o).run P w = .ok (.value (.int .i64 (bits .or .i64 p q))) w := by
  simp only [execOp, ho, hx, hy]; rfl
theorem run_xor_i (ho : o.op = .binOp .xor t x y t') (hx : a.eval x = .int .i64 p) (hy : a.eval y = .int .i64 q) : (execOp a.eval o).run P w = .ok (.value (.int .i64 (bits .xor .i64 p q))) w := by
  simp only [execOp, ho, hx, hy]; rfl
end
end Go.Proofs.YtndnlbinnhdmbaaDoor

