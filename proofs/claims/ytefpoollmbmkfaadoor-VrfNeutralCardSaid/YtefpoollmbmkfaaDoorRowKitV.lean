/- What the rows of layer 9 share: the bytes of a proof out of an argument. No conditions. -/
import Derived.Test.YtefpoollmbmkfaaDoorRowKitG
import Derived.Test.YtefpoollmbmkfaaDoorVa
set_option linter.unusedSimpArgs false
set_option linter.unusedVariables false
namespace Go.Proofs.YtefpoollmbmkfaaDoor
set_option maxRecDepth 100000
open Go.ChangeShapes Go.WideShapes Go.ChangeAt Go.RowKit
theorem j4c (a c n P : Nat) (hn : n = a + (a + c)) (h : P < 2 ^ n) : P / 2 ^ a / 2 ^ c < 2 ^ a := by
  subst hn
  rw [Nat.pow_add, Nat.pow_add] at h
  rw [Nat.div_lt_iff_lt_mul (Nat.two_pow_pos _), Nat.div_lt_iff_lt_mul (Nat.two_pow_pos _)]
  have e : 2 ^ a * (2 ^ a * 2 ^ c) = 2 ^ a * 2 ^ c * 2 ^ a := by rw [Nat.mul_assoc (2 ^ a) (2 ^ c) (2 ^ a), Nat.mul_comm (2 ^ c) (2 ^ a)]
  rw [← e]
  exact h
theorem j9f {n P : Nat} (hn : n = 80) (h : P < 2 ^ (8 * n)) : B80 P := by
  have h1 : ∀ a c, a = 256 → c = 128 → P / 2 ^ a / 2 ^ c < 2 ^ a := fun a c ha hc => j4c a c (8 * n) P (by omega) h
  clear h hn
  unfold B80 pN r6
  exact h1 256 128 rfl rfl
theorem y9b {H : Type} {r4 : TypeId × Value → H} {W W' : World} {base b0 : Nat} {sp : Nat → Bool} {held : Bool} {r : Reach} {v : Value} {d : DataW H} {ps : List MemPlace}
    (hval : Value.okWide Tryd.prog W' r b0 45 v) (hd : DataW.Trod r4 Tryd.prog W base sp held 45 v d ps) : ∃ N : Nat, B80 N ∧ v = .agg (q7 .u8 80 (j0 N)) ∧ ps = [] := by
  obtain ⟨N, h1, h2, h3⟩ := j4b Tryd.underlying45 (by kernel_rfl) hval hd
  exact ⟨N, j9f (n := 80) rfl h1, h2, h3⟩
end Go.Proofs.YtefpoollmbmkfaaDoor
