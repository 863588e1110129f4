/- Rows of noughts, bytes of numbers, blocks of a sum: what sums of all kinds share. No conditions. Words of 32 bits reckoned as words and as numbers of the type int, with a mask. No conditions. Sums of 32 bytes: the padded row, the states, the sum; a sum that goes on. No conditions. the document's turn of a word of 32 bits, by numbers of the type int. Conditions: the number is a word. -/
import Derived.Test.YtndnlbinnhdmbaaDoorGc
import Derived.Lib.AppendZeros
import Derived.Test.YtndnlbinnhdmbaaDoorJ9
import Derived.Test.YtndnlbinnhdmbaaDoorJ7
set_option linter.unusedSimpArgs false
set_option linter.unusedVariables false
namespace Go.Proofs.YtndnlbinnhdmbaaDoor
open Go.RowKit
set_option linter.unusedSimpArgs false
end Go.Proofs.YtndnlbinnhdmbaaDoor

namespace Go.Proofs.YtndnlbinnhdmbaaDoor
open Go.RowKit

section
variable {w : World} {o : Oper} {a : Act}
theorem sls_size : (Tryd.prog.info? 33).map (·.size) = some 1 := by kernel_rfl
theorem run_ixp {x y : Operand} {k : IntKind} {ad : Addr} {n c j : Nat} (hj : j < n) (ho : o.op = .indexAddr 77 x y) (hx : a.eval x = .slice (some ad) n c) (hy : a.eval y = .int k (j : Int)) :
    (execOp a.eval o).run Tryd.prog w = .ok (.value (.pointer (some (ad.add j)))) w := by
  have h1 := sls_size
  cases hq : Tryd.prog.info? 33 with
  | none => simp [hq] at h1
  | some i =>
    have hs : i.size = 1 := by simpa [hq] using h1
    simp [execOp, ho, hx, hy, Instr.indexAt, asIntOf, run_underlying Tryd.underlying77, Sem.run_bind, sizeOf, typeInfo, hq, hs, hj]
theorem run_ixv {P : Program} {t e : TypeId} {k kk : IntKind} {m j : Nat} {f : Nat → Int} {x y : Operand} (hj : j < m) (ht : P.underlying t = some (.array m e)) (he : (P.info? e).map (·.size) = some 1) (hg : (isAgg e).run P w = .ok false w) (ho : o.op = .index t x y) (hx : a.eval x = .agg (arrK kk m f)) (hy : a.eval y = .int k (j : Int)) :
    (execOp a.eval o).run P w = .ok (.value (.int kk (f j))) w := by
  cases hq : P.info? e with
  | none => simp [hq] at he
  | some i =>
    have hs : i.size = 1 := by simpa [hq] using he
    have hp := arrK_get kk m f j hj
    simp [execOp, ho, hx, hy, Instr.index, asIntOf, part, run_underlying ht, Sem.run_bind, sizeOf, typeInfo, hq, hs, hj, hg, hp]
end
/-- the length that a slice bears -/
def slLen : Value → Nat
  | .slice _ n _ => n
  | _ => 0
/-- the byte of a number -/
def u8 (n : Nat) : UInt8 := UInt8.ofNat n
theorem u8_nat (n : Nat) : (u8 n).toNat = n % 256 := UInt8.toNat_ofNat'
theorem u8_cast (n : Nat) : ((u8 n).toNat : Int) = (n : Int) % 256 := by rw [u8_nat]; rfl
def be8 (X : Nat) : List UInt8 := [u8 (X / 72057594037927936), u8 (X / 281474976710656), u8 (X / 1099511627776), u8 (X / 4294967296), u8 (X / 16777216), u8 (X / 65536), u8 (X / 256), u8 X]
def w8 (x : Int) : Int := IntKind.wrap .u8 x
theorem flat_len (ps : List (List UInt8)) (i : Nat) : (ps.take i).flatten.length ≤ ps.flatten.length := by
  have : ps.flatten = (ps.take i).flatten ++ (ps.drop i).flatten := by rw [← List.flatten_append, List.take_append_drop]
  rw [this, List.length_append]; omega
theorem flat_step {ps : List (List UInt8)} {i : Nat} {l : List UInt8} (h : ps[i]? = some l) : (ps.take (i + 1)).flatten = (ps.take i).flatten ++ l := by
  rw [List.take_add_one, h]
  simp
theorem be8_app (L : List UInt8) (X : Nat) : L ++ [u8 (X / 72057594037927936)] ++ [u8 (X / 281474976710656)] ++ [u8 (X / 1099511627776)] ++ [u8 (X / 4294967296)] ++ [u8 (X / 16777216)] ++ [u8 (X / 65536)] ++ [u8 (X / 256)] ++ [u8 X] = L ++ be8 X := by
  simp only [be8, List.append_assoc, List.cons_append, List.nil_append]
theorem sl_len {w : World} {v : Value} {l : List UInt8} (h : Sl w v l) : slLen v = l.length := by
  obtain ⟨A, c, rfl, _⟩ := h
  rfl
theorem run_c8 {w : World} {o : Oper} {a : Act} {x : Operand} {p : Int} (ho : o.op = .convert 54 5 x) (hx : a.eval x = .int .u64 p) : (execOp a.eval o).run Tryd.prog w = .ok (.value (.int .u8 (w8 p))) w := by
  simp [execOp, ho, hx, convert, run_underlying Tryd.underlying5, run_underlying Tryd.underlying54, Sem.run_bind, Conv.intToInt, w8]
theorem w8_nat (X n D : Nat) (h : 2 ^ n = D) : w8 (sr ((X : Nat) : Int) n) = ((u8 (X / D)).toNat : Int) := by
  subst h
  unfold w8 sr
  rw [u8_cast, IntKind.wrap_u8, Int.natCast_ediv, Int.natCast_pow]
  rfl
theorem w8_nat0 (X : Nat) : w8 (sr ((X : Nat) : Int) 0) = ((u8 X).toNat : Int) := by rw [w8_nat X 0 1 (by decide), Nat.div_one]
theorem w8_ok (x : Int) : 0 ≤ w8 x ∧ w8 x < 256 := by unfold w8; rw [IntKind.wrap_u8]; omega
theorem run_shr_i {P : Program} {w : World} {o : Oper} {a : Act} {x y : Operand} {t t' : TypeId} {k : IntKind} {p : Int} {n : Nat} (hn : n ≤ 64) (ho : o.op = .binOp .shr t x y t') (hx : a.eval x = .int .i64 p) (hy : a.eval y = .int k (n : Int)) : (execOp a.eval o).run P w = .ok (.value (.int .i64 (p / 2 ^ n))) w := by
  have h : min ((n : Int)).toNat IntKind.i64.bits = n := by rw [Int.toNat_natCast]; exact Nat.min_eq_left hn
  simp only [execOp, ho, hx, hy, eqGuard, binOp, Sem.run_bind]
  simp [Op.shift, h, go_sem, Sem.run_bind]
theorem run_shr_i0 {P : Program} {w : World} {o : Oper} {a : Act} {x y : Operand} {t t' : TypeId} {k : IntKind} {p : Int} (ho : o.op = .binOp .shr t x y t') (hx : a.eval x = .int .i64 p) (hy : a.eval y = .int k 0) : (execOp a.eval o).run P w = .ok (.value (.int .i64 p)) w := by
  have h := run_shr_i (P := P) (w := w) (n := 0) (by decide) ho hx hy
  simpa using h
theorem run_c8i {w : World} {o : Oper} {a : Act} {x : Operand} {p : Int} (ho : o.op = .convert 3 5 x) (hx : a.eval x = .int .i64 p) : (execOp a.eval o).run Tryd.prog w = .ok (.value (.int .u8 (w8 p))) w := by
  simp [execOp, ho, hx, convert, run_underlying Tryd.underlying5, run_underlying Tryd.underlying3, Sem.run_bind, Conv.intToInt, w8]
theorem w8_natd (X D : Nat) : w8 (((X / D : Nat) : Int)) = ((u8 (X / D)).toNat : Int) := by
  unfold w8
  rw [u8_cast, IntKind.wrap_u8]
theorem w8_natx (X : Nat) : w8 ((X : Nat) : Int) = ((u8 X).toNat : Int) := by
  unfold w8
  rw [u8_cast, IntKind.wrap_u8]
theorem shr_nat (X n D : Nat) (h : 2 ^ n = D) : ((X : Nat) : Int) / 2 ^ n = ((X / D : Nat) : Int) := by
  subst h
  rw [Int.natCast_ediv, Int.natCast_pow]
  rfl
section
variable {P : Program} {w : World} {o : Oper} {a : Act} {x y : Operand} {t t' : TypeId} {p q : Int}
theorem run_shl_i {k : IntKind} {n : Nat} (hn : n ≤ 64) (ho : o.op = .binOp .shl t x y t') (hx : a.eval x = .int .i64 p) (hy : a.eval y = .int k (n : Int)) : (execOp a.eval o).run P w = .ok (.value (.int .i64 (IntKind.wrap .i64 (p * 2 ^ n)))) w := by
  have h : min ((n : Int)).toNat IntKind.i64.bits = n := by rw [Int.toNat_natCast]; exact Nat.min_eq_left hn
  simp only [execOp, ho, hx, hy, eqGuard, binOp, Sem.run_bind]
  simp [Op.shift, h, go_sem, Sem.run_bind]
theorem run_and_i (ho : o.op = .binOp .and t x y t') (hx : a.eval x = .int .i64 p) (hy : a.eval y = .int .i64 q) : (execOp a.eval o).run P w = .ok (.value (.int .i64 (bits .and .i64 p q))) w := by
  simp only [execOp, ho, hx, hy]; rfl
theorem run_or_i (ho : o.op = .binOp .or t x y t') (hx : a.eval x = .int .i64 p) (hy : a.eval y = .int .i64 q) : (execOp a.eval o).run P w = .ok (.value (.int .i64 (bits .or .i64 p q))) w := by
  simp only [execOp, ho, hx, hy]; rfl
theorem run_xor_i (ho : o.op = .binOp .xor t x y t') (hx : a.eval x = .int .i64 p) (hy : a.eval y = .int .i64 q) : (execOp a.eval o).run P w = .ok (.value (.int .i64 (bits .xor .i64 p q))) w := by
  simp only [execOp, ho, hx, hy]; rfl
end
end Go.Proofs.YtndnlbinnhdmbaaDoor

set_option linter.unusedSimpArgs false
set_option linter.unusedVariables false
namespace Go.Proofs.YtndnlbinnhdmbaaDoor
open Go.RowKit

theorem bits_xor_nat (k : IntKind) (j : Nat) (hj : j ≤ k.bits) (hk : ∀ n : Int, 0 ≤ n → n < 2 ^ j → k.wrap n = n) (a b : Nat) (ha : a < 2 ^ j) (hb : b < 2 ^ j) : bits .xor k a b = ((a ^^^ b : Nat) : Int) := by
  have hp : 2 ^ j ≤ 2 ^ k.bits := Nat.pow_le_pow_right (by decide) hj
  have ha' : a % 2 ^ k.bits = a := Nat.mod_eq_of_lt (Nat.lt_of_lt_of_le ha hp)
  have hb' : b % 2 ^ k.bits = b := Nat.mod_eq_of_lt (Nat.lt_of_lt_of_le hb hp)
  simp only [bits, BitVec.ofInt_natCast, BitVec.toNat_xor, BitVec.toNat_ofNat, ha', hb']
  exact hk _ (Int.natCast_nonneg _) (by exact_mod_cast Nat.xor_lt_two_pow ha hb)
theorem wr32 (n : Int) (h0 : 0 ≤ n) (h1 : n < 2 ^ 32) : IntKind.u32.wrap n = n := by rw [IntKind.wrap_u32]; omega
theorem wr63 (n : Int) (h0 : 0 ≤ n) (h1 : n < 2 ^ 63) : IntKind.i64.wrap n = n := by rw [IntKind.wrap_i64]; omega
section
variable {a b : Nat}
theorem w_and (ha : a < 2 ^ 32) (hb : b < 2 ^ 32) : an4 a b = ((a &&& b : Nat) : Int) := (bits_nat .u32 32 (by decide) wr32 a b ha hb).1
theorem w_or (ha : a < 2 ^ 32) (hb : b < 2 ^ 32) : oo4 a b = ((a ||| b : Nat) : Int) := (bits_nat .u32 32 (by decide) wr32 a b ha hb).2
theorem w_xor (ha : a < 2 ^ 32) (hb : b < 2 ^ 32) : xo4 a b = ((a ^^^ b : Nat) : Int) := bits_xor_nat .u32 32 (by decide) wr32 a b ha hb
theorem i_and (ha : a < 2 ^ 63) (hb : b < 2 ^ 63) : bits .and .i64 a b = ((a &&& b : Nat) : Int) := (bits_nat .i64 63 (by decide) wr63 a b ha hb).1
theorem i_or (ha : a < 2 ^ 63) (hb : b < 2 ^ 63) : bits .or .i64 a b = ((a ||| b : Nat) : Int) := (bits_nat .i64 63 (by decide) wr63 a b ha hb).2
theorem i_xor (ha : a < 2 ^ 63) (hb : b < 2 ^ 63) : bits .xor .i64 a b = ((a ^^^ b : Nat) : Int) := bits_xor_nat .i64 63 (by decide) wr63 a b ha hb
end
/-- the mask -/
theorem i_mask {x : Int} (h0 : 0 ≤ x) (h1 : x < 2 ^ 63) : bits .and .i64 x 4294967295 = x % 4294967296 := bits_mask .i64 63 (by decide) wr63 32 (by decide) x h0 h1
/-- a word -/
def W4 (x : Int) : Prop := 0 ≤ x ∧ x < 4294967296
theorem W4.nat {x : Int} (h : W4 x) : ∃ a : Nat, x = (a : Int) ∧ a < 2 ^ 32 := ⟨x.toNat, by have := h.1; omega, by have := h.1; have := h.2; omega⟩
theorem W4.mk' {a : Nat} (h : a < 2 ^ 32) : W4 (a : Int) := ⟨by omega, by omega⟩
theorem up63 {a : Nat} (h : a < 2 ^ 32) : a < 2 ^ 63 := by omega
variable {x y : Int}
theorem xo_W4 (hx : W4 x) (hy : W4 y) : W4 (xo4 x y) := by
  obtain ⟨a, rfl, ha⟩ := hx.nat; obtain ⟨b, rfl, hb⟩ := hy.nat; rw [w_xor ha hb]; exact W4.mk' (Nat.xor_lt_two_pow ha hb)
theorem an_W4 (hx : W4 x) (hy : W4 y) : W4 (an4 x y) := by
  obtain ⟨a, rfl, ha⟩ := hx.nat; obtain ⟨b, rfl, hb⟩ := hy.nat; rw [w_and ha hb]; exact W4.mk' (Nat.and_lt_two_pow _ hb)
theorem oo_W4 (hx : W4 x) (hy : W4 y) : W4 (oo4 x y) := by
  obtain ⟨a, rfl, ha⟩ := hx.nat; obtain ⟨b, rfl, hb⟩ := hy.nat; rw [w_or ha hb]; exact W4.mk' (Nat.or_lt_two_pow ha hb)
theorem nt_W4 (hx : W4 x) : W4 (nt4 x) := xo_W4 (x := 4294967295) ⟨by decide, by decide⟩ hx
theorem ad_W4 : W4 (ad4 x y) := by unfold ad4 W4; rw [IntKind.wrap_u32]; omega
theorem sl_W4 {n : Nat} : W4 (sl4 x n) := by unfold sl4 W4; rw [IntKind.wrap_u32]; omega
theorem sr_W4 {n : Nat} (hx : W4 x) : W4 (sr4 x n) := by
  obtain ⟨a, rfl, ha⟩ := hx.nat
  unfold sr4
  rw [show ((a : Int) / 2 ^ n) = ((a / 2 ^ n : Nat) : Int) by rw [Int.natCast_ediv, Int.natCast_pow]; rfl]
  exact W4.mk' (Nat.lt_of_le_of_lt (Nat.div_le_self _ _) ha)
theorem rt_W4 {n : Nat} (hx : W4 x) : W4 (rt4 x n) := oo_W4 (sr_W4 hx) sl_W4
/-- the same by ints -/
theorem ix_xor (hx : W4 x) (hy : W4 y) : bits .xor .i64 x y = xo4 x y := by
  obtain ⟨a, rfl, ha⟩ := hx.nat; obtain ⟨b, rfl, hb⟩ := hy.nat; rw [w_xor ha hb, i_xor (up63 ha) (up63 hb)]
theorem ix_and (hx : W4 x) (hy : W4 y) : bits .and .i64 x y = an4 x y := by
  obtain ⟨a, rfl, ha⟩ := hx.nat; obtain ⟨b, rfl, hb⟩ := hy.nat; rw [w_and ha hb, i_and (up63 ha) (up63 hb)]
theorem ix_nt (hx : W4 x) : bits .xor .i64 4294967295 x = nt4 x := ix_xor (x := 4294967295) ⟨by decide, by decide⟩ hx
theorem ad_mod : ad4 x y = (x + y) % 4294967296 := by unfold ad4; rw [IntKind.wrap_u32]
theorem ix_shl {n : Nat} (hx : W4 x) (h1 : 1 ≤ n) (h2 : n ≤ 31) : IntKind.wrap .i64 (x * 2 ^ (32 - n)) = x * 2 ^ (32 - n) := by
  obtain ⟨a, rfl, ha⟩ := hx.nat
  have e2 : ((a : Int) * 2 ^ (32 - n)) = ((a * 2 ^ (32 - n) : Nat) : Int) := by rw [Int.natCast_mul, Int.natCast_pow]; rfl
  have h3 : 2 ^ (32 - n) ≤ 2 ^ 31 := Nat.pow_le_pow_right (by decide) (by omega)
  have l2 : a * 2 ^ (32 - n) < 2 ^ 63 := Nat.lt_of_le_of_lt (Nat.mul_le_mul_left _ h3) (by omega)
  rw [e2]
  exact wr63 _ (Int.natCast_nonneg _) (by exact_mod_cast l2)
/-- turned by ints -/
theorem ix_turn {n : Nat} (hx : W4 x) (h1 : 1 ≤ n) (h2 : n ≤ 31) : bits .and .i64 (bits .or .i64 (x / 2 ^ n) (x * 2 ^ (32 - n))) 4294967295 = rt4 x n := by
  obtain ⟨a, rfl, ha⟩ := hx.nat
  have e1 : ((a : Int) / 2 ^ n) = ((a / 2 ^ n : Nat) : Int) := by rw [Int.natCast_ediv, Int.natCast_pow]; rfl
  have e2 : ((a : Int) * 2 ^ (32 - n)) = ((a * 2 ^ (32 - n) : Nat) : Int) := by rw [Int.natCast_mul, Int.natCast_pow]; rfl
  have l1 : a / 2 ^ n < 2 ^ 32 := Nat.lt_of_le_of_lt (Nat.div_le_self _ _) ha
  have l2 : a * 2 ^ (32 - n) < 2 ^ 63 := by
    have h3 : 2 ^ (32 - n) ≤ 2 ^ 31 := Nat.pow_le_pow_right (by decide) (by omega)
    calc a * 2 ^ (32 - n) ≤ a * 2 ^ 31 := Nat.mul_le_mul_left _ h3
      _ < 2 ^ 63 := by omega
  have e3 : sl4 (a : Int) (32 - n) = ((a * 2 ^ (32 - n) % 2 ^ 32 : Nat) : Int) := by
    unfold sl4; rw [IntKind.wrap_u32, e2]; omega
  have l3 : a * 2 ^ (32 - n) % 2 ^ 32 < 2 ^ 32 := Nat.mod_lt _ (by decide)
  unfold rt4
  rw [e3, show sr4 (a : Int) n = ((a / 2 ^ n : Nat) : Int) from e1, w_or l1 l3, e1, e2, i_or (up63 l1) l2, i_mask (by omega) (by exact_mod_cast Nat.or_lt_two_pow (up63 l1) l2)]
  have h4 : (a / 2 ^ n ||| a * 2 ^ (32 - n)) % 2 ^ 32 = a / 2 ^ n ||| a * 2 ^ (32 - n) % 2 ^ 32 := by rw [Nat.or_mod_two_pow, Nat.mod_eq_of_lt l1]
  rw [← h4]; omega
end Go.Proofs.YtndnlbinnhdmbaaDoor

set_option linter.unusedSimpArgs false
set_option linter.unusedVariables false
namespace Go.Proofs.YtndnlbinnhdmbaaDoor
open Go.RowKit

/-- how many zeros stand behind the mark -/
def zc4 (n : Nat) : Nat := (119 - n % 64) % 64
/-- the padded row -/
def pad4 (l : List UInt8) : List UInt8 := l ++ [128] ++ List.replicate (zc4 l.length) 0 ++ be8 (8 * l.length)
def nb4 (n : Nat) : Nat := (n + 1 + zc4 n + 8) / 64
theorem zc_spec4 (n : Nat) : (n + 1 + zc4 n) % 64 = 56 ∧ zc4 n < 64 := by unfold zc4; omega
theorem zc_lt4 {n k : Nat} (h : k < zc4 n) : (n + 1 + k) % 64 ≠ 56 := by unfold zc4 at h; omega
theorem zc_rest4 (n : Nat) : zc4 (n - 64 * (n / 64)) = zc4 n := by unfold zc4; omega
theorem nb_rest4 (n : Nat) : nb4 (n - 64 * (n / 64)) + n / 64 = nb4 n := by unfold nb4 zc4; omega
theorem pad_length4 (l : List UInt8) : (pad4 l).length = 64 * nb4 l.length := by
  have h := zc_spec4 l.length
  unfold pad4 nb4
  simp only [List.length_append, List.length_cons, List.length_nil, List.length_replicate, be8]
  omega
/-- the states -/
def Hs4 (P : List UInt8) : Nat → Nat → Int
  | 0 => hf4
  | j + 1 => prs4 (Hs4 P j) (bt (P.drop (64 * j)))
/-- byte by byte -/
def ob4 (H : Nat → Int) (j : Nat) : Int := w8 (sr4 (H (j / 4)) (8 * (3 - j % 4)))
def outp4 (H : Nat → Int) (n j : Nat) : Int := if j < n then ob4 H j else 0
theorem outp_zero4 (H : Nat → Int) : outp4 H 0 = fun _ => 0 := by funext j; unfold outp4; rw [if_neg (by omega)]
theorem outp_step4 (H : Nat → Int) (i k : Nat) (hk : k < 4) : upd (outp4 H (4 * i + k)) (4 * i + k) (w8 (sr4 (H i) (8 * (3 - k)))) = outp4 H (4 * i + (k + 1)) := by
  funext j
  unfold upd outp4
  by_cases h : j = 4 * i + k
  · subst h
    rw [if_pos rfl, if_pos (by omega), ob4, show (4 * i + k) / 4 = i by omega, show (4 * i + k) % 4 = k by omega]
  · rw [if_neg h]
    by_cases hl : j < 4 * i + k
    · rw [if_pos hl, if_pos (by omega)]
    · rw [if_neg hl, if_neg (by omega)]
theorem outp_end4 (H : Nat → Int) : arrK .u8 32 (outp4 H 32) = arrK .u8 32 (ob4 H) := arrK_congr _ _ _ _ fun j hj => by unfold outp4; rw [if_pos hj]
/-- the sum's bytes -/
def sm4 (l : List UInt8) : Nat → Int := ob4 (Hs4 (pad4 l) (nb4 l.length))
theorem drop_next4 (P : List UInt8) (j : Nat) : List.drop 64 (List.drop (64 * j) P) = List.drop (64 * (j + 1)) P := by
  rw [List.drop_drop]; congr 1
/-! ### a block's words are of its bytes alone -/
theorem wrd_congr4 {a b : Nat → Int} {i : Nat} : ∀ k, (∀ j, j < 4 * i + k → a j = b j) → wrd4 a i k = wrd4 b i k
  | 0, _ => rfl
  | k + 1, h => by
    show oo4 (sl4 (wrd4 a i k) 8) (a (4 * i + k)) = oo4 (sl4 (wrd4 b i k) 8) (b (4 * i + k))
    rw [wrd_congr4 k (fun j hj => h j (by omega)), h (4 * i + k) (by omega)]
theorem sch_congr4 {a b : Nat → Int} (h : ∀ j, j < 64 → a j = b j) : ∀ i, sch4 a i = sch4 b i
  | 0 => rfl
  | i + 1 => by
    show upd (sch4 a i) i (if i < 16 then wrd4 a i 4 else sg4 (sch4 a i) i) = upd (sch4 b i) i (if i < 16 then wrd4 b i 4 else sg4 (sch4 b i) i)
    rw [sch_congr4 h i]
    by_cases hi : i < 16
    · rw [if_pos hi, if_pos hi, wrd_congr4 4 (fun j hj => h j (by omega))]
    · rw [if_neg hi, if_neg hi]
theorem prs_congr4 {H a b : Nat → Int} (h : ∀ j, j < 64 → a j = b j) : prs4 H a = prs4 H b := by
  funext j
  unfold prs4
  rw [sch_congr4 h 64]
theorem bt_drop4 (P : List UInt8) (n m : Nat) : bt (P.drop n) m = bt P (n + m) := by
  unfold bt
  simp [List.getD_eq_getElem?_getD, List.getElem?_drop]
theorem Hs_congr4 {P Q : List UInt8} : ∀ k, (∀ j, j < 64 * k → bt P j = bt Q j) → Hs4 P k = Hs4 Q k
  | 0, _ => rfl
  | k + 1, h => by
    show prs4 (Hs4 P k) (bt (P.drop (64 * k))) = prs4 (Hs4 Q k) (bt (Q.drop (64 * k)))
    rw [Hs_congr4 k (fun j hj => h j (by omega))]
    exact prs_congr4 fun j hj => by rw [bt_drop4, bt_drop4]; exact h _ (by omega)
theorem bt_app4 {P Q : List UInt8} {j : Nat} (h : j < P.length) : bt (P ++ Q) j = bt P j := by
  unfold bt
  simp [List.getD_eq_getElem?_getD, List.getElem?_append, h]
/-! ### a sum that goes on -/
/-- the words behind some bytes, and what is left of these -/
def hw4 (F : List UInt8) : Nat → Int := Hs4 F (F.length / 64)
def hr4 (F : List UInt8) : List UInt8 := F.drop (64 * (F.length / 64))
theorem hr_length4 (F : List UInt8) : (hr4 F).length = F.length - 64 * (F.length / 64) := by unfold hr4; rw [List.length_drop]
theorem hr_lt4 (F : List UInt8) : (hr4 F).length < 64 := by rw [hr_length4]; omega
theorem drop_app4 {F b : List UInt8} : (F ++ b).drop (64 * (F.length / 64)) = hr4 F ++ b := by
  unfold hr4
  rw [List.drop_append_of_le_length (by omega)]
theorem hw_app4 (F b : List UInt8) : hw4 F = Hs4 (F ++ b) (F.length / 64) := Hs_congr4 _ fun j hj => (bt_app4 (by omega)).symm
/-- a block more -/
theorem hs_next4 (F b : List UInt8) (k : Nat) : prs4 (Hs4 (F ++ b) (F.length / 64 + k)) (bt ((hr4 F ++ b).drop (64 * k))) = Hs4 (F ++ b) (F.length / 64 + (k + 1)) := by
  rw [← drop_app4, List.drop_drop, ← Nat.mul_add]; rfl
/-- behind all blocks -/
theorem hs_end4 {F b : List UInt8} {k : Nat} (h : k = (hr4 F ++ b).length / 64) : Hs4 (F ++ b) (F.length / 64 + k) = hw4 (F ++ b) ∧ (hr4 F ++ b).drop (64 * k) = hr4 (F ++ b) := by
  have e : F.length / 64 + k = (F ++ b).length / 64 := by rw [h, List.length_append, List.length_append, hr_length4]; omega
  refine ⟨by rw [hw4, e], ?_⟩
  rw [← drop_app4, List.drop_drop, ← Nat.mul_add, e]; rfl
/-- what is padded at the end -/
theorem pad_rest4 (F : List UInt8) : (pad4 F).drop (64 * (F.length / 64)) = hr4 F ++ [128] ++ List.replicate (zc4 F.length) 0 ++ be8 (8 * F.length) := by
  unfold pad4
  rw [List.append_assoc, List.append_assoc, drop_app4]
  simp only [List.append_assoc]
theorem hw_pad4 (F : List UInt8) : hw4 F = Hs4 (pad4 F) (F.length / 64) := by
  unfold pad4
  rw [List.append_assoc, List.append_assoc]
  exact hw_app4 _ _
theorem pad_next4 (F : List UInt8) (k : Nat) : prs4 (Hs4 (pad4 F) (F.length / 64 + k)) (bt (((pad4 F).drop (64 * (F.length / 64))).drop (64 * k))) = Hs4 (pad4 F) (F.length / 64 + (k + 1)) := by
  rw [List.drop_drop, ← Nat.mul_add]; rfl
theorem pad_end4 (F : List UInt8) : F.length / 64 + nb4 (hr4 F).length = nb4 F.length := by
  rw [hr_length4, Nat.add_comm]; exact nb_rest4 _
end Go.Proofs.YtndnlbinnhdmbaaDoor

set_option linter.unusedSimpArgs false
set_option linter.unusedVariables false
namespace Go.Proofs.YtndnlbinnhdmbaaDoor
set_option maxHeartbeats 1500000
set_option maxRecDepth 100000
open Go.RowKit
attribute [local irreducible] wpList

theorem rturn4_c (p : Int) (hp : W4 p) (n : Nat) (h1 : 1 ≤ n) (h2 : n ≤ 31) (w : World) :
  Calls Tryd.prog 63 #[.int .i64 p, .int .i64 (n : Int)] w fun e w' => Ret (.int .i64 (rt4 p n)) w w' e := by
 have n0 : (1 : Int) ≤ (n : Int) := by omega
 have n1 : (n : Int) ≤ 31 := by omega
 have hs := ix_shl hp h1 h2
 have ht := ix_turn hp h1 h2
 clear hp
 have off0 : Off [] w w := Off.refl _ _
 go_enter Tryd.func63, Tryd.ntmps63
 go_upto_region 1 with fail
 refine Rx 10 ?_
 refine Xv ?_
 refine Xv ?_
 refine Xw ?_ (v := .int .i64 (p / 2 ^ n)) (hv := fun _ _ => by exact run_shr_i (n := n) (by omega) rfl rfl rfl)
 refine Xv ?_
 refine Xv ?_
 refine Xw ?_ (v := .int .i64 (((32 - n : Nat) : Int))) (hv := fun _ _ => by go_simp; (try simp only [IntKind.wrap_u64, IntKind.wrap_i64]); (try omega))
 refine Xw ?_ (v := .int .i64 (p * 2 ^ (32 - n))) (hv := fun _ _ => by rw [← hs]; exact run_shl_i (n := 32 - n) (by omega) rfl rfl rfl)
 refine Xw ?_ (v := .int .i64 (bits .or .i64 (p / 2 ^ n) (p * 2 ^ (32 - n)))) (hv := fun _ _ => by exact run_or_i rfl rfl rfl)
 refine Xw ?_ (v := .int .i64 (rt4 p n)) (hv := fun _ _ => by rw [← ht]; exact run_and_i rfl rfl rfl)
 refine Xv ?_
 refine wpX_nil fun W1 hE => ?_
 have hO := off_ext hE
 replace off0 := off0.o hO
 clear hO hE
 refine LN ?_
 go_wp2
 exact bodyPost_ret (v := .int .i64 (rt4 p n)) (by simp only [results, Tryd.results63]; go_simp) rfl ⟨rfl, off0.ext⟩
end Go.Proofs.YtndnlbinnhdmbaaDoor
