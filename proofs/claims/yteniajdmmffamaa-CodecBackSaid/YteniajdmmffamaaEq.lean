/- '==' between two arrays of integers, and index into one: laws over any program. -/
import Derived.Test.YteniajdmmffamaaArr
namespace Go.Proofs.Yteniajdmmffamaa
set_option linter.unusedSimpArgs false
set_option linter.unusedVariables false
open Go.RowKit

def sameTo (f g : Nat → Int) : Nat → Nat → Bool
  | _, 0 => true
  | s, m + 1 => (f s == g s) && sameTo f g (s + 1) m
theorem sameTo_true (f g : Nat → Int) : ∀ m s, sameTo f g s m = true ↔ ∀ i, s ≤ i → i < s + m → f i = g i
  | 0, s => by simp [sameTo]; omega
  | m + 1, s => by
    simp only [sameTo, Bool.and_eq_true, beq_iff_eq, sameTo_true f g m (s + 1)]
    constructor
    · rintro ⟨h0, h1⟩ i hi hlt
      by_cases h : i = s
      · subst h; exact h0
      · exact h1 i (by omega) (by omega)
    · intro h
      exact ⟨h s (by omega) (by omega), fun i hi hlt => h i (by omega) (by omega)⟩
def eqArr (n : Nat) (f g : Nat → Int) : Bool := sameTo f g 0 n
theorem eqArr_true (n : Nat) (f g : Nat → Int) : eqArr n f g = true ↔ ∀ i, i < n → f i = g i := by
  unfold eqArr; rw [sameTo_true]; constructor
  · intro h i hi; exact h i (by omega) (by omega)
  · intro h i _ hi; exact h i (by omega)

theorem run_part_int {P : Program} (w : World) (e : TypeId) (k : IntKind) (he : P.underlying e = some (.int k)) (xs : Array Value) (i : Nat) (v : Value) (hv : xs[i]? = some v) : (part e xs i).run P w = .ok v w := by
  have h1 : (isAgg e).run P w = .ok false w := by
    unfold isAgg; rw [Sem.run_bind, run_underlying he w]; rfl
  simp [part, Sem.run_bind, h1, hv]

theorem run_eqLoop {P : Program} (w : World) (d : Nat) (e : TypeId) (k : IntKind) (he : P.underlying e = some (.int k)) (xs ys : Array Value) (f g : Nat → Int) : ∀ (m s : Nat),
    (∀ i, s ≤ i → i < s + m → xs[i]? = some (.int k (f i))) → (∀ i, s ≤ i → i < s + m → ys[i]? = some (.int k (g i))) →
    Sem.run P (forIn (List.range' s m) ((none, ()) : Option Bool × Unit) fun i _ => do
        let a ← part e xs (i * 1)
        let b ← part e ys (i * 1)
        let c ← Op.equalIn (d + 1) e a b
        if c = false then pure (ForInStep.done (some false, ())) else pure (ForInStep.yield (none, ()))) w =
      .ok (if sameTo f g s m then (none, ()) else (some false, ())) w
  | 0, s, _, _ => by simp [sameTo]
  | m + 1, s, hx, hy => by
    rw [List.range'_succ, List.forIn_cons]
    simp only [Nat.mul_one, Sem.run_bind, run_part_int w e k he xs s _ (hx s (by omega) (by omega)), run_part_int w e k he ys s _ (hy s (by omega) (by omega)), Result.andThen_ok, run_equalIn_int w d e k k _ _ he]
    by_cases h : f s = g s
    · have ih := run_eqLoop w d e k he xs ys f g m (s + 1) (fun i h1 h2 => hx i (by omega) (by omega)) (fun i h1 h2 => hy i (by omega) (by omega))
      simp only [Nat.mul_one] at ih
      simp [h, sameTo, ih]
    · simp [h, sameTo]

theorem run_equalIn_arr {P : Program} (w : World) (d : Nat) (t e n : Nat) (k : IntKind) (xs ys : Array Value) (f g : Nat → Int) (ht : P.underlying t = some (.array n e)) (he : P.underlying e = some (.int k)) (hs : (P.info? e).map (·.size) = some 1)
    (hx : ∀ i, i < n → xs[i]? = some (.int k (f i))) (hy : ∀ i, i < n → ys[i]? = some (.int k (g i))) :
    (Op.equalIn (d + 2) t (.agg xs) (.agg ys)).run P w = .ok (eqArr n f g) w := by
  have hsz : (sizeOf e).run P w = .ok 1 w := by
    cases hq : P.info? e with
    | none => simp [hq] at hs
    | some i => simp [hq] at hs; simp [sizeOf, typeInfo, hq, hs]
  have hl := run_eqLoop w d e k he xs ys f g n 0 (fun i _ h => hx i (by omega)) (fun i _ h => hy i (by omega))
  rw [Op.equalIn]
  simp [run_underlying ht, hsz]
  simp only [Nat.mul_one] at hl
  rw [hl]
  unfold eqArr
  cases sameTo f g 0 n <;> simp

/-- one element of an array of integers, by value -/
theorem run_index_arr {P : Program} (w : World) (t e n : Nat) (k k' : IntKind) (xs : Array Value) (i : Nat) (x : Int) (ht : P.underlying t = some (.array n e)) (he : P.underlying e = some (.int k)) (hs : (P.info? e).map (·.size) = some 1) (hi : i < n) (hx : xs[i]? = some (.int k x)) :
    (Instr.index t (.agg xs) (.int k' (i : Int))).run P w = .ok (.int k x) w := by
  have hsz : (sizeOf e).run P w = .ok 1 w := by
    cases hq : P.info? e with
    | none => simp [hq] at hs
    | some i => simp [hq] at hs; simp [sizeOf, typeInfo, hq, hs]
  have hp := run_part_int w e k he xs i _ hx
  simp [Instr.index, asIntOf, run_underlying ht, hsz, hi, hp]
end Go.Proofs.Yteniajdmmffamaa
