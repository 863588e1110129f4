/- What the document's sum needs: the schedule in one loop, places, bytes of the words, the tables of the document. -/
import Derived.Test.YtfkhogeaadldnaaDoorShD
import Derived.Test.YtfkhogeaadldnaaDoorOz
namespace Go.Proofs.YtfkhogeaadldnaaDoor
set_option linter.unusedSimpArgs false
set_option linter.unusedVariables false
open Go.RowKit
def GR (w : World) : Prop := Rd w 2 (arrK .u64 80 kf) ∧ Rd w 1 (arrK .u64 8 hf)
theorem GR_ext {w W : World} (h : GR w) (e : Ext w W) : GR W := ⟨h.1.ext e, h.2.ext e⟩
/-- the schedule in one loop -/
def rst (b : Nat → Int) (i : Nat) : Nat → Int := if i < 16 then fst b (8 * i) else sch b i
theorem rst_lo {b : Nat → Int} {i : Nat} (h : i < 16) : rst b i = fst b (8 * i) := if_pos h
theorem rst_hi {b : Nat → Int} {i : Nat} (h : 16 ≤ i) : rst b i = sch b i := if_neg (by omega)
theorem rst_next {b : Nat → Int} {i : Nat} (h : i < 16) : fst b (8 * i + 8) = rst b (i + 1) := by
  by_cases h2 : i + 1 < 16
  · rw [rst_lo h2]; rfl
  · obtain rfl : i = 15 := by omega
    rw [rst_hi (by omega)]
    exact fst_end b
theorem bt_drop (P : List UInt8) (n m : Nat) : bt (P.drop n) m = bt P (n + m) := by
  unfold bt
  simp [List.getD_eq_getElem?_getD, List.getElem?_drop]
theorem fst_next (P : List UInt8) (n i k : Nat) (hi : i < 16) (hk : k < 8) : upd (fst (bt (P.drop n)) (8 * i + k)) i (oo (sl (fst (bt (P.drop n)) (8 * i + k) i) 8) (bt P (n + 8 * i + k))) = fst (bt (P.drop n)) (8 * i + (k + 1)) := by
  have h := fst_step (bt (P.drop n)) (8 * i + k)
  rw [show (8 * i + k) / 8 = i by omega, bt_drop, ← Nat.add_assoc] at h
  exact h
theorem w8_ok (x : Int) : 0 ≤ w8 x ∧ w8 x < 256 := by unfold w8; rw [IntKind.wrap_u8]; omega
/-- byte j of the words -/
def bo (H : Nat → Int) (j : Nat) : UInt8 := u8 (ob H j).toNat
theorem bo_ob (H : Nat → Int) (j : Nat) : ((bo H j).toNat : Int) = ob H j := by
  have := w8_ok (sr (H (j / 8)) (8 * (7 - j % 8)))
  unfold bo
  rw [u8_cast]
  unfold ob
  omega
theorem bo_cast (H : Nat → Int) (i k : Nat) (hk : k < 8) : w8 (sr (H i) (8 * (7 - k))) = ((bo H (8 * i + k)).toNat : Int) := by
  rw [bo_ob]
  unfold ob
  rw [show (8 * i + k) / 8 = i by omega, show (8 * i + k) % 8 = k by omega]
def wb (H : Nat → Int) (n : Nat) : List UInt8 := (List.range n).map (bo H)
theorem wb_length (H : Nat → Int) (n : Nat) : (wb H n).length = n := by simp [wb]
theorem wb_step (H : Nat → Int) (i : Nat) : wb H (8 * i) ++ [bo H (8 * i + 0)] ++ [bo H (8 * i + 1)] ++ [bo H (8 * i + 2)] ++ [bo H (8 * i + 3)] ++ [bo H (8 * i + 4)] ++ [bo H (8 * i + 5)] ++ [bo H (8 * i + 6)] ++ [bo H (8 * i + 7)] = wb H (8 * (i + 1)) := by
  unfold wb
  rw [show 8 * (i + 1) = 8 * i + 7 + 1 by omega]
  simp only [List.range_succ, List.map_append, List.map_cons, List.map_nil, List.append_assoc, Nat.add_zero, List.cons_append, List.nil_append]
/-- the sum as bytes -/
def smb (l : List UInt8) : List UInt8 := wb (Hs (pad l) (nb l.length)) 64
theorem smb_length (l : List UInt8) : (smb l).length = 64 := wb_length _ _
theorem smb_cells (l : List UInt8) : (arrK .u8 64 (sm l)).toList = bs8 (smb l) := by
  unfold arrK bs8 smb wb
  rw [List.map_map]
  simp only [List.map_inj_left, Function.comp]
  intro j _
  rw [bo_ob]; rfl
theorem pad_app (L : List UInt8) (X : Nat) : L ++ [0] ++ [0] ++ [0] ++ [0] ++ [0] ++ [0] ++ [0] ++ [0] ++ [u8 (X / 72057594037927936)] ++ [u8 (X / 281474976710656)] ++ [u8 (X / 1099511627776)] ++ [u8 (X / 4294967296)] ++ [u8 (X / 16777216)] ++ [u8 (X / 65536)] ++ [u8 (X / 256)] ++ [u8 X] = L ++ List.replicate 8 0 ++ be8 X := by
  simp only [be8, List.append_assoc, List.cons_append, List.nil_append, List.replicate]
theorem run_shr_i {P : Program} {w : World} {o : Oper} {a : Act} {x y : Operand} {t t' : TypeId} {k : IntKind} {p : Int} {n : Nat} (hn : n ≤ 64) (ho : o.op = .binOp .shr t x y t') (hx : a.eval x = .int .i64 p) (hy : a.eval y = .int k (n : Int)) : (execOp a.eval o).run P w = .ok (.value (.int .i64 (p / 2 ^ n))) w := by
  have h : min ((n : Int)).toNat IntKind.i64.bits = n := by rw [Int.toNat_natCast]; exact Nat.min_eq_left hn
  simp only [execOp, ho, hx, hy, eqGuard, binOp, Sem.run_bind]
  simp [Op.shift, h, go_sem, Sem.run_bind]
theorem run_shr_i0 {P : Program} {w : World} {o : Oper} {a : Act} {x y : Operand} {t t' : TypeId} {k : IntKind} {p : Int} (ho : o.op = .binOp .shr t x y t') (hx : a.eval x = .int .i64 p) (hy : a.eval y = .int k 0) : (execOp a.eval o).run P w = .ok (.value (.int .i64 p)) w := by
  have h := run_shr_i (P := P) (w := w) (n := 0) (by decide) ho hx hy
  simpa using h
theorem run_c8i {w : World} {o : Oper} {a : Act} {x : Operand} {p : Int} (ho : o.op = .convert 3 5 x) (hx : a.eval x = .int .i64 p) : (execOp a.eval o).run Tryd.prog w = .ok (.value (.int .u8 (w8 p))) w := by
  simp [execOp, ho, hx, convert, run_underlying Tryd.underlying5, run_underlying Tryd.underlying3, Sem.run_bind, Conv.intToInt, w8]
theorem w8_natd (X D : Nat) : w8 (((X / D : Nat) : Int)) = ((u8 (X / D)).toNat : Int) := by
  unfold w8
  rw [u8_cast, IntKind.wrap_u8]
theorem w8_natx (X : Nat) : w8 ((X : Nat) : Int) = ((u8 X).toNat : Int) := by
  unfold w8
  rw [u8_cast, IntKind.wrap_u8]
theorem shr_nat (X n D : Nat) (h : 2 ^ n = D) : ((X : Nat) : Int) / 2 ^ n = ((X / D : Nat) : Int) := by
  subst h
  rw [Int.natCast_ediv, Int.natCast_pow]
  rfl
end Go.Proofs.YtfkhogeaadldnaaDoor
