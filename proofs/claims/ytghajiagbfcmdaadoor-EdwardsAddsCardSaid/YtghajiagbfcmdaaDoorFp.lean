/- The field of 2^255 - 19 as a ring of Lean's; inverses; roots. No conditions. -/
import Derived.Test.YtghajiagbfcmdaaDoorNum
import Derived.Test.YtghajiagbfcmdaaDoorFeG
namespace Go.Proofs.YtghajiagbfcmdaaDoor
set_option linter.unusedSimpArgs false
set_option linter.unusedVariables false

abbrev Fp := Fin PP
instance instNeZeroPP : NeZero PP := ⟨by decide +kernel⟩
def fp (A : Nat) : Fp := Fin.ofNat PP A
theorem fp_val (A : Nat) : (fp A).val = A % PP := rfl
theorem fp_eq {A B : Nat} : fp A = fp B ↔ A % PP = B % PP := ⟨fun h => congrArg Fin.val h, fun h => Fin.ext h⟩
theorem fp_mod (A : Nat) : fp (A % PP) = fp A := fp_eq.2 (Nat.mod_mod _ _)
theorem fp_mul (A B : Nat) : fp (A * B) = fp A * fp B := Fin.ext (by show A * B % PP = (A % PP) * (B % PP) % PP; rw [← Nat.mul_mod])
theorem fp_add (A B : Nat) : fp (A + B) = fp A + fp B := Fin.ext (by show (A + B) % PP = (A % PP + B % PP) % PP; rw [← Nat.add_mod])
theorem fp_zero : fp 0 = 0 := rfl
theorem fp_one : fp 1 = 1 := rfl
theorem PP_pos : 0 < PP := by decide +kernel
theorem fp_PP : fp PP = 0 := fp_eq.2 (by rw [Nat.mod_self, Nat.zero_mod])
theorem fp_neg (A : Nat) : fp (PP - A % PP) = - fp A := by
  have h := fp_add (PP - A % PP) (A % PP)
  rw [Nat.sub_add_cancel (Nat.le_of_lt (Nat.mod_lt _ PP_pos)), fp_PP, fp_mod] at h
  grind
theorem fp_inj {A B : Nat} (hA : A < PP) (hB : B < PP) (h : fp A = fp B) : A = B := by
  have := fp_eq.1 h
  rwa [Nat.mod_eq_of_lt hA, Nat.mod_eq_of_lt hB] at this
theorem fp_self (x : Fp) : fp x.val = x := Fin.ext (Nat.mod_eq_of_lt x.isLt)
theorem fp_nz {A : Nat} (h : fp A ≠ 0) : A % PP ≠ 0 := fun e => h (by rw [← fp_zero]; exact fp_eq.2 (by rw [e, Nat.zero_mod]))
theorem genP : Gen PP 2 := gen_pp
/-- the inverse, that of nought being nought -/
def finv (x : Fp) : Fp := fp (x.val ^ (PP - 2))
theorem finv_mul {x : Fp} (h : x ≠ 0) : x * finv x = 1 := by
  have h0 : x.val % PP ≠ 0 := fp_nz (by rw [fp_self]; exact h)
  have h1 := genP.fermat h0
  rw [← fp_self x, show finv (fp x.val) = fp (x.val ^ (PP - 2)) by rw [fp_self]; rfl, ← fp_mul, ← fp_one]
  refine fp_eq.2 ?_
  rw [Nat.mul_comm, ← Nat.pow_succ, show (PP - 2).succ = PP - 1 by decide +kernel, h1]
  decide +kernel
theorem zero_prod {x y : Fp} (h : x * y = 0) : x = 0 ∨ y = 0 := by
  by_cases hx : x = 0
  · exact .inl hx
  · have := finv_mul hx
    exact .inr (by grind)
theorem sq_eq {x y : Fp} (h : x * x = y * y) : x = y ∨ x = -y := by
  have h1 : (x - y) * (x + y) = 0 := by grind
  rcases zero_prod h1 with h2 | h2
  · exact .inl (by grind)
  · exact .inr (by grind)
theorem fp_pw (A n : Nat) : fp (pw A n) = fp (A ^ n) := fp_mod _
theorem law_inv (A : Nat) : A * pw A (PP - 2) % PP = if A % PP = 0 then 0 else 1 := by
  by_cases h : A % PP = 0
  · rw [if_pos h, Nat.mul_mod, h, Nat.zero_mul, Nat.zero_mod]
  · rw [if_neg h]
    unfold pw
    rw [Nat.mul_mod_mod, Nat.mul_comm, ← Nat.pow_succ, show (PP - 2).succ = PP - 1 by decide +kernel]
    exact genP.fermat h
theorem rtX_lt (u v : Nat) : rtX u v < PP := Nat.mod_lt _ PP_pos
theorem fp_v3 (v : Nat) : fp (v3 v) = fp v * fp v * fp v := by unfold v3; simp only [fp_mod, fp_mul]
theorem fp_v7 (v : Nat) : fp (v7 v) = fp (v3 v) * fp (v3 v) * fp v := by unfold v7; simp only [fp_mod, fp_mul]
theorem fp_W (u v : Nat) : fp (rtW u v) = fp v * (fp (rtX u v) * fp (rtX u v)) := by unfold rtW; simp only [fp_mod, fp_mul]
theorem v3_mod (v : Nat) : v3 (v % PP) = v3 v := fp_inj (Nat.mod_lt _ PP_pos) (Nat.mod_lt _ PP_pos) (by rw [fp_v3, fp_v3, fp_mod])
theorem v7_mod (v : Nat) : v7 (v % PP) = v7 v := fp_inj (Nat.mod_lt _ PP_pos) (Nat.mod_lt _ PP_pos) (by rw [fp_v7, fp_v7, fp_mod, v3_mod])
theorem rtX_mod (u v : Nat) : rtX (u % PP) (v % PP) = rtX u v := by
  unfold rtX
  rw [v3_mod, v7_mod, show u % PP * v7 v % PP = u * v7 v % PP from Nat.mod_mul_mod _ _ _]
  exact fp_inj (Nat.mod_lt _ PP_pos) (Nat.mod_lt _ PP_pos) (by simp only [fp_mod, fp_mul])
theorem rtW_mods (u v : Nat) : rtW (u % PP) (v % PP) = rtW u v := by
  unfold rtW
  rw [rtX_mod, Nat.mod_mul_mod]
theorem rtR_mod (u v : Nat) : rtR (u % PP) (v % PP) = rtR u v := by
  unfold rtR
  rw [rtX_mod, rtW_mods, Nat.mod_mod]
theorem rtB_mod (u v : Nat) : rtB (u % PP) (v % PP) = rtB u v := by
  unfold rtB
  rw [rtW_mods, Nat.mod_mod]
theorem fp_II : fp II * fp II = -1 := by
  rw [← fp_mul]
  have h : fp (II * II) + fp 1 = 0 := by
    rw [← fp_add, ← fp_PP]; exact fp_eq.2 (by decide +kernel)
  rw [fp_one] at h
  grind
/-- a root's square, times v, is u -/
theorem rt_sq {u v : Nat} (h : rtB u v = true) : fp v * (fp (rtR u v) * fp (rtR u v)) = fp u := by
  unfold rtB at h
  unfold rtR
  have hW := fp_W u v
  by_cases h1 : rtW u v = u % PP
  · rw [if_pos h1, ← hW, h1, fp_mod]
  · rw [if_neg h1]
    rw [decide_eq_false h1, Bool.false_or, decide_eq_true_eq] at h
    rw [if_pos h, fp_mod, fp_mul]
    rw [h, fp_mod, fp_neg] at hW
    have := fp_II
    grind
theorem one_or_neg {s : Fp} (h : s * s = 1) : s = 1 ∨ s = -1 := sq_eq (by grind)
theorem pow_key (A E : Nat) (hE : 8 * E + 4 = PP - 1) (h0 : A % PP ≠ 0) : fp (A * A * ((A * A) ^ E * (A * A) ^ E)) * fp (A * A * ((A * A) ^ E * (A * A) ^ E)) = 1 := by
  rw [← fp_mul, ← fp_one]
  refine fp_eq.2 ?_
  have e : A * A * ((A * A) ^ E * (A * A) ^ E) * (A * A * ((A * A) ^ E * (A * A) ^ E)) = A ^ (8 * E + 4) := by
    have : A * A = A ^ 2 := by rw [Nat.pow_succ, Nat.pow_one]
    rw [this, ← Nat.pow_mul]
    simp only [← Nat.pow_add]
    congr 1
    omega
  rw [e, hE, genP.fermat h0]
  decide +kernel
/-- a square has a root: itself or its opposite -/
theorem rt_square (A : Nat) : rtB (A * A % PP) 1 = true ∧ (fp (rtR (A * A % PP) 1) = fp A ∨ fp (rtR (A * A % PP) 1) = - fp A) := by
  have key : rtB (A * A % PP) 1 = true := by
    obtain ⟨E, hE⟩ : ∃ E, E = 7237005577332262213973186563042994240829374041602535252466099000494570602493 := ⟨_, rfl⟩
    have hE8 : 8 * E + 4 = PP - 1 := by rw [hE]; decide +kernel
    have hX : fp (rtX (A * A % PP) 1) = fp (A * A) * fp ((A * A) ^ E) := by
      unfold rtX
      rw [← hE, show v3 1 = 1 by decide +kernel, show v7 1 = 1 by decide +kernel, Nat.mul_one, Nat.mod_mod]
      rw [fp_mod, fp_mul, fp_mod, fp_pw]
      congr 1
      refine fp_eq.2 ?_
      rw [← Nat.pow_mod]
    clear hE
    have hW := fp_W (A * A % PP) 1
    rw [hX, fp_one] at hW
    unfold rtB
    by_cases h0 : A % PP = 0
    · have ha : fp A = 0 := by rw [← fp_zero]; exact fp_eq.2 (by rw [h0, Nat.zero_mod])
      have : rtW (A * A % PP) 1 = A * A % PP % PP := fp_inj (Nat.mod_lt _ PP_pos) (Nat.mod_lt _ PP_pos) (by rw [hW, fp_mod, fp_mod, fp_mul A A, ha]; grind)
      rw [decide_eq_true this, Bool.true_or]
    · have hk := pow_key A E hE8 h0
      rcases one_or_neg hk with h | h
      · have : rtW (A * A % PP) 1 = A * A % PP % PP := fp_inj (Nat.mod_lt _ PP_pos) (Nat.mod_lt _ PP_pos) (by
          rw [hW, fp_mod, fp_mod]
          rw [fp_mul, fp_mul ((A * A) ^ E)] at h
          grind)
        rw [decide_eq_true this, Bool.true_or]
      · have : rtW (A * A % PP) 1 = (PP - A * A % PP % PP) % PP := fp_inj (Nat.mod_lt _ PP_pos) (Nat.mod_lt _ PP_pos) (by
          rw [hW, fp_mod, fp_neg, fp_mod]
          rw [fp_mul, fp_mul ((A * A) ^ E)] at h
          grind)
        rw [decide_eq_true this, Bool.or_true]
  refine ⟨key, sq_eq ?_⟩
  have := rt_sq key
  rw [fp_one, fp_mod, fp_mul] at this
  grind
end Go.Proofs.YtghajiagbfcmdaaDoor
