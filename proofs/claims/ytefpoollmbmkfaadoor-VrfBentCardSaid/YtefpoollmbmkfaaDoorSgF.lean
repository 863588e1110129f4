/- custumallaw08: SignBent. Conditions: the cells of the variables hold their numbers. -/
import Derived.Test.YtefpoollmbmkfaaDoorGc
import Derived.Test.YtefpoollmbmkfaaDoorSgE
set_option linter.unusedSimpArgs false
set_option linter.unusedVariables false
namespace Go.Proofs.YtefpoollmbmkfaaDoor
set_option maxHeartbeats 2000000
set_option maxRecDepth 100000
open Go.RowKit
attribute [local irreducible] wpList
variable {kn : Kn}
open Sc (LL J21)
section
variable {w : World} {o : Oper} {a : Act} {x y : Operand} {t t' : TypeId} {p q : Int} {i m b : Nat}
theorem Z6s (hm : 0 < m) (hi : i < 18446744073709551616) (ho : o.op = .binOp .quo t x y t') (hx : a.eval x = .int .u64 (i : Int)) (hy : a.eval y = .int .u64 (m : Int)) : (execOp a.eval o).run Tryd.prog w = .ok (.value (.int .u64 ((i / m : Nat) : Int))) w := by
  have h0 : ¬ m = 0 := by omega
  have hle := Nat.div_le_self i m
  have h1 : IntKind.u64.wrap ((i : Int) / (m : Int)) = (i : Int) / (m : Int) := by rw [← Int.natCast_ediv]; generalize i / m = q at *; rw [IntKind.wrap_u64]; omega
  simp only [execOp, ho, hx, hy, eqGuard, binOp, Sem.run_bind]
  simp only [Op.intDiv]
  simp [h0, h1, go_sem, Sem.run_bind]
theorem Q7b (hm : 0 < m) (hi : i < 18446744073709551616) (ho : o.op = .binOp .rem t x y t') (hx : a.eval x = .int .u64 (i : Int)) (hy : a.eval y = .int .u64 (m : Int)) : (execOp a.eval o).run Tryd.prog w = .ok (.value (.int .u64 ((i % m : Nat) : Int))) w := by
  have h0 : ¬ m = 0 := by omega
  have h1 : (i : Int).tmod (m : Int) = ((i % m : Nat) : Int) := by rw [Int.tmod_eq_emod_of_nonneg (by omega)]; rfl
  have hle := Nat.mod_le i m
  have h2 : IntKind.u64.wrap ((i % m : Nat) : Int) = ((i % m : Nat) : Int) := by rw [IntKind.wrap_u64]; omega
  simp only [execOp, ho, hx, hy, eqGuard, binOp, Sem.run_bind]
  simp only [Op.intDiv]
  simp [h0, h1, h2, go_sem, Sem.run_bind]
theorem Y5b (hb : b < 8) (ho : o.op = .binOp .shl t x y t') (hx : a.eval x = .int .u8 1) (hy : a.eval y = .int .u64 (b : Int)) : (execOp a.eval o).run Tryd.prog w = .ok (.value (.int .u8 ((2 ^ b : Nat) : Int))) w := by
  have h : min ((b : Int)).toNat IntKind.u8.bits = b := by rw [Int.toNat_natCast]; exact Nat.min_eq_left (Nat.le_of_lt hb)
  have hp : 2 ^ b < 256 := Nat.pow_lt_pow_right (by decide) hb (a := 2) (n := 8)
  have h2 : IntKind.u8.wrap (2 ^ b : Int) = (2 ^ b : Int) := by
    rw [show (2 ^ b : Int) = ((2 ^ b : Nat) : Int) by rw [Int.natCast_pow]; rfl]; generalize 2 ^ b = z at *; rw [IntKind.wrap_u8]; omega
  simp only [execOp, ho, hx, hy, eqGuard, binOp, Sem.run_bind]
  simp [Op.shift, h, h2, go_sem, Sem.run_bind]
theorem Q63 (ho : o.op = .binOp .xor t x y t') (hx : a.eval x = .int .u8 p) (hy : a.eval y = .int .u8 q) : (execOp a.eval o).run Tryd.prog w = .ok (.value (.int .u8 (bits .xor .u8 p q))) w := by
  simp only [execOp, ho, hx, hy]; rfl
theorem Q4k {n : Nat} {c : Bool} (hc : decide (i < n) = c) (ho : o.op = .binOp .lss t x y t') (hx : a.eval x = .int .i64 (i : Int)) (hy : a.eval y = .int .i64 (n : Int)) : (execOp a.eval o).run Tryd.prog w = .ok (.value (.bool c)) w := by
  have e : decide ((i : Int) < (n : Int)) = c := by rw [← hc]; exact decide_eq_decide.2 Int.ofNat_lt
  simp only [execOp, ho, hx, hy, eqGuard, binOp, Sem.run_bind]
  simp [e, hc, go_sem, Sem.run_bind]
end
theorem exi (n : Int) : ∃ X, X = n := ⟨n, rfl⟩
theorem Y9v (n : Int) : J4m (IntKind.u8.wrap n) := by rw [IntKind.wrap_u8]; unfold J4m; omega
theorem Z1z (p q : Int) : J4m (bits .xor .u8 p q) := Y9v _
theorem Z4o (n V k : Nat) {x : Int} (hx : J4m x) : ∃ G, G < 2 ^ (8 * n) ∧ J1 .u8 n (upd (Q6 V) k x) = J1 .u8 n (Q6 G) := by
  have h : ∀ j, J4m (upd (Q6 V) k x j) := fun j => by unfold upd; split; exact hx; exact J4p V j
  exact ⟨J1f (upd (Q6 V) k x) n, J5v _ h n, J0d _ _ _ _ fun j hj => (Q25 _ h n j hj).symm⟩
end Go.Proofs.YtefpoollmbmkfaaDoor
