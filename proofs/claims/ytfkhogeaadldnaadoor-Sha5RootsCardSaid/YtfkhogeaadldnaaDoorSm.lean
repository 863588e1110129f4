/- Sums of 64 bytes: slices of slices, a place of an array value, the padded row, the states, the sum. -/
import Derived.Test.YtfkhogeaadldnaaDoorShC
import Derived.Test.YtfkhogeaadldnaaDoorAz
namespace Go.Proofs.YtfkhogeaadldnaaDoor
set_option linter.unusedSimpArgs false
set_option linter.unusedVariables false
open Go.RowKit

/-- a slice of slices of bytes -/
def Pss (w : World) (v : Value) (ps : List (List UInt8)) : Prop :=
  ∃ A c, v = .slice A ps.length c ∧ ∀ i l, ps[i]? = some l → ∃ ad u, A = some ad ∧ w.cell? (ad.add i) = some u ∧ Sl w u l
section
variable {w : World} {o : Oper} {a : Act}
theorem sls_size : (Tryd.prog.info? 28).map (·.size) = some 1 := by kernel_rfl
theorem run_ixp {x y : Operand} {k : IntKind} {ad : Addr} {n c j : Nat} (hj : j < n) (ho : o.op = .indexAddr 22 x y) (hx : a.eval x = .slice (some ad) n c) (hy : a.eval y = .int k (j : Int)) :
    (execOp a.eval o).run Tryd.prog w = .ok (.value (.pointer (some (ad.add j)))) w := by
  have h1 := sls_size
  cases hq : Tryd.prog.info? 28 with
  | none => simp [hq] at h1
  | some i =>
    have hs : i.size = 1 := by simpa [hq] using h1
    simp [execOp, ho, hx, hy, Instr.indexAt, asIntOf, run_underlying Tryd.underlying22, Sem.run_bind, sizeOf, typeInfo, hq, hs, hj]
theorem run_ixv {P : Program} {t e : TypeId} {k kk : IntKind} {m j : Nat} {f : Nat → Int} {x y : Operand} (hj : j < m) (ht : P.underlying t = some (.array m e)) (he : (P.info? e).map (·.size) = some 1) (hg : (isAgg e).run P w = .ok false w) (ho : o.op = .index t x y) (hx : a.eval x = .agg (arrK kk m f)) (hy : a.eval y = .int k (j : Int)) :
    (execOp a.eval o).run P w = .ok (.value (.int kk (f j))) w := by
  cases hq : P.info? e with
  | none => simp [hq] at he
  | some i =>
    have hs : i.size = 1 := by simpa [hq] using he
    have hp := arrK_get kk m f j hj
    simp [execOp, ho, hx, hy, Instr.index, asIntOf, part, run_underlying ht, Sem.run_bind, sizeOf, typeInfo, hq, hs, hj, hg, hp]
end
/-- the length that a slice bears -/
def slLen : Value → Nat
  | .slice _ n _ => n
  | _ => 0
theorem own_len {w : World} {v : Value} {l : List UInt8} (h : Own w v l) : slLen v = l.length := by
  obtain ⟨A, c, rfl, _⟩ := h.len
  rfl
/-- the byte of a number -/
def u8 (n : Nat) : UInt8 := UInt8.ofNat n
theorem u8_nat (n : Nat) : (u8 n).toNat = n % 256 := UInt8.toNat_ofNat'
theorem u8_cast (n : Nat) : ((u8 n).toNat : Int) = (n : Int) % 256 := by rw [u8_nat]; rfl
def be8 (X : Nat) : List UInt8 := [u8 (X / 72057594037927936), u8 (X / 281474976710656), u8 (X / 1099511627776), u8 (X / 4294967296), u8 (X / 16777216), u8 (X / 65536), u8 (X / 256), u8 X]
/-- how many zeros stand behind the mark -/
def zc (n : Nat) : Nat := (239 - n % 128) % 128
/-- the padded row -/
def pad (l : List UInt8) : List UInt8 := l ++ [128] ++ List.replicate (zc l.length) 0 ++ List.replicate 8 0 ++ be8 (8 * l.length)
def nb (n : Nat) : Nat := (n + 1 + zc n + 16) / 128
theorem zc_spec (n : Nat) : (n + 1 + zc n) % 128 = 112 ∧ zc n < 128 := by unfold zc; omega
theorem zc_lt {n k : Nat} (h : k < zc n) : (n + 1 + k) % 128 ≠ 112 := by unfold zc at h; omega
theorem pad_length (l : List UInt8) : (pad l).length = 128 * nb l.length := by
  have h := zc_spec l.length
  unfold pad nb
  simp only [List.length_append, List.length_cons, List.length_nil, List.length_replicate, be8]
  omega
/-- the states -/
def Hs (P : List UInt8) : Nat → Nat → Int
  | 0 => hf
  | j + 1 => prs (Hs P j) (bt (P.drop (128 * j)))
def w8 (x : Int) : Int := IntKind.wrap .u8 x
/-- byte by byte -/
def ob (H : Nat → Int) (j : Nat) : Int := w8 (sr (H (j / 8)) (8 * (7 - j % 8)))
def outp (H : Nat → Int) (n j : Nat) : Int := if j < n then ob H j else 0
theorem outp_zero (H : Nat → Int) : outp H 0 = fun _ => 0 := by funext j; unfold outp; rw [if_neg (by omega)]
theorem outp_step (H : Nat → Int) (i k : Nat) (hk : k < 8) : upd (outp H (8 * i + k)) (8 * i + k) (w8 (sr (H i) (8 * (7 - k)))) = outp H (8 * i + (k + 1)) := by
  funext j
  unfold upd outp
  by_cases h : j = 8 * i + k
  · subst h
    rw [if_pos rfl, if_pos (by omega), ob, show (8 * i + k) / 8 = i by omega, show (8 * i + k) % 8 = k by omega]
  · rw [if_neg h]
    by_cases hl : j < 8 * i + k
    · rw [if_pos hl, if_pos (by omega)]
    · rw [if_neg hl, if_neg (by omega)]
theorem outp_end (H : Nat → Int) : arrK .u8 64 (outp H 64) = arrK .u8 64 (ob H) := arrK_congr _ _ _ _ fun j hj => by unfold outp; rw [if_pos hj]
/-- the sum's bytes -/
def sm (l : List UInt8) : Nat → Int := ob (Hs (pad l) (nb l.length))
theorem flat_len (ps : List (List UInt8)) (i : Nat) : (ps.take i).flatten.length ≤ ps.flatten.length := by
  have : ps.flatten = (ps.take i).flatten ++ (ps.drop i).flatten := by rw [← List.flatten_append, List.take_append_drop]
  rw [this, List.length_append]; omega
theorem flat_step {ps : List (List UInt8)} {i : Nat} {l : List UInt8} (h : ps[i]? = some l) : (ps.take (i + 1)).flatten = (ps.take i).flatten ++ l := by
  rw [List.take_add_one, h]
  simp
theorem drop_next (P : List UInt8) (j : Nat) : List.drop 128 (List.drop (128 * j) P) = List.drop (128 * (j + 1)) P := by
  rw [List.drop_drop]; congr 1
theorem be8_app (L : List UInt8) (X : Nat) : L ++ [u8 (X / 72057594037927936)] ++ [u8 (X / 281474976710656)] ++ [u8 (X / 1099511627776)] ++ [u8 (X / 4294967296)] ++ [u8 (X / 16777216)] ++ [u8 (X / 65536)] ++ [u8 (X / 256)] ++ [u8 X] = L ++ be8 X := by
  simp only [be8, List.append_assoc, List.cons_append, List.nil_append]
theorem sl_len {w : World} {v : Value} {l : List UInt8} (h : Sl w v l) : slLen v = l.length := by
  obtain ⟨A, c, rfl, _⟩ := h
  rfl
theorem run_c8 {w : World} {o : Oper} {a : Act} {x : Operand} {p : Int} (ho : o.op = .convert 31 5 x) (hx : a.eval x = .int .u64 p) : (execOp a.eval o).run Tryd.prog w = .ok (.value (.int .u8 (w8 p))) w := by
  simp [execOp, ho, hx, convert, run_underlying Tryd.underlying5, run_underlying Tryd.underlying31, Sem.run_bind, Conv.intToInt, w8]
theorem w8_nat (X n D : Nat) (h : 2 ^ n = D) : w8 (sr ((X : Nat) : Int) n) = ((u8 (X / D)).toNat : Int) := by
  subst h
  unfold w8 sr
  rw [u8_cast, IntKind.wrap_u8, Int.natCast_ediv, Int.natCast_pow]
  rfl
theorem w8_nat0 (X : Nat) : w8 (sr ((X : Nat) : Int) 0) = ((u8 X).toNat : Int) := by rw [w8_nat X 0 1 (by decide), Nat.div_one]
theorem u64_agg {w : World} : (isAgg 31).run Tryd.prog w = .ok false w := by
  simp [isAgg, run_underlying Tryd.underlying31, Sem.run_bind]
theorem own_to_sl {w : World} {v : Value} {l : List UInt8} (h : Own w v l) : Sl w v (List.drop (128 * 0) l) := h.sl
end Go.Proofs.YtfkhogeaadldnaaDoor
