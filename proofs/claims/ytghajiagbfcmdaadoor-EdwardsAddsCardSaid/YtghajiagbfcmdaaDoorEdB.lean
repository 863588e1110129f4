/- Points as bytes: the root of a quotient; what is decoded has its bytes, and comes back from them. No conditions. -/
import Derived.Test.YtghajiagbfcmdaaDoorEdA
namespace Go.Proofs.YtghajiagbfcmdaaDoor
set_option linter.unusedSimpArgs false
set_option linter.unusedVariables false

/-! ### The root of a quotient -/
theorem fp_pow_mod (A n : Nat) : fp (pw (A % PP) n) = fp (A ^ n) := by
  unfold pw
  rw [fp_mod]; exact fp_eq.2 (by rw [← Nat.pow_mod])
theorem rtX_fp (u v E : Nat) (hE : E = 7237005577332262213973186563042994240829374041602535252466099000494570602493) : fp (rtX u v) = fp u * (fp v * fp v * fp v) * fp ((u * v7 v) ^ E) := by
  unfold rtX
  rw [← hE, fp_mod, fp_mul, fp_mod, fp_mul, fp_v3, fp_pow_mod]
theorem key_pow (V X E : Nat) (hE : 8 * E + 4 = PP - 1) (hV : V % PP ≠ 0) (hX : X % PP ≠ 0) : fp ((V * V * (V * V) * (V * V * (V * V)) * (X * X)) ^ (2 * E + 1)) * fp ((V * V * (V * V) * (V * V * (V * V)) * (X * X)) ^ (2 * E + 1)) = 1 := by
  rw [← fp_mul, ← fp_one]
  refine fp_eq.2 ?_
  obtain ⟨M, hM⟩ : ∃ M, M = PP - 1 := ⟨_, rfl⟩
  have f1 : V ^ M % PP = 1 := by rw [hM]; exact genP.fermat hV
  have f2 : X ^ M % PP = 1 := by rw [hM]; exact genP.fermat hX
  rw [← hM] at hE
  clear hM
  have e : (V * V * (V * V) * (V * V * (V * V)) * (X * X)) ^ (2 * E + 1) * (V * V * (V * V) * (V * V * (V * V)) * (X * X)) ^ (2 * E + 1) = (V ^ M * V ^ M * (V ^ M * V ^ M)) * X ^ M := by
    have a1 : V * V * (V * V) * (V * V * (V * V)) = V ^ 8 := by simp only [Nat.pow_succ, Nat.pow_zero, Nat.one_mul, Nat.mul_assoc]
    have a2 : X * X = X ^ 2 := by simp only [Nat.pow_succ, Nat.pow_zero, Nat.one_mul]
    rw [a1, a2]
    simp only [← Nat.pow_add, Nat.mul_pow, ← Nat.pow_mul]
    rw [Nat.mul_mul_mul_comm, ← Nat.pow_add, ← Nat.pow_add, show 8 * (2 * E + 1) + 8 * (2 * E + 1) = M + M + (M + M) by omega, show 2 * (2 * E + 1) + 2 * (2 * E + 1) = M by omega]
  rw [e]
  have g1 : V ^ M * V ^ M % PP = 1 := by rw [Nat.mul_mod, f1]; decide +kernel
  have g2 : V ^ M * V ^ M * (V ^ M * V ^ M) % PP = 1 := by rw [Nat.mul_mod, g1]; decide +kernel
  rw [Nat.mul_mod, g2, f2]
theorem v7_fp' (v : Nat) : fp (v7 v) = fp (v * v * v * (v * v * v) * v) := by rw [fp_v7, fp_v3]; simp only [fp_mul]
theorem fp_pow_congr {A B : Nat} (h : fp A = fp B) (n : Nat) : fp (A ^ n) = fp (B ^ n) := fp_eq.2 (by rw [Nat.pow_mod, fp_eq.1 h, ← Nat.pow_mod])
/-- if u is v times a square it has its root -/
theorem rt_quot {u v X : Nat} (hv : fp v ≠ 0) (h : fp u = fp v * (fp X * fp X)) : rtB u v = true := by
  unfold rtB
  by_cases hx : fp X = 0
  · have hu : fp u = 0 := by rw [h, hx]; grind
    have : rtW u v = u % PP := fp_inj (Nat.mod_lt _ PP_pos) (Nat.mod_lt _ PP_pos) (by
      rw [fp_W, fp_mod, rtX_fp u v _ rfl, hu]; generalize fp _ = z; grind)
    rw [decide_eq_true this, Bool.true_or]
  obtain ⟨E, hE⟩ : ∃ E, E = 7237005577332262213973186563042994240829374041602535252466099000494570602493 := ⟨_, rfl⟩
  have hE8 : 8 * E + 4 = PP - 1 := by rw [hE]; decide +kernel
  have hk := key_pow v X E hE8 (fp_nz hv) (fp_nz hx)
  have hW : fp (rtW u v) = fp u * fp ((v * v * (v * v) * (v * v * (v * v)) * (X * X)) ^ (2 * E + 1)) := by
    rw [fp_W, rtX_fp u v E hE]
    have e1 : fp (u * v7 v) = fp (v * v * (v * v) * (v * v * (v * v)) * (X * X)) := by rw [fp_mul, v7_fp', h]; simp only [fp_mul]; grind
    rw [fp_pow_congr e1 E]
    generalize hA : v * v * (v * v) * (v * v * (v * v)) * (X * X) = A
    have hA' : fp A = fp v * fp v * (fp v * fp v) * (fp v * fp v * (fp v * fp v)) * (fp X * fp X) := by rw [← hA]; simp only [fp_mul]
    rw [show A ^ (2 * E + 1) = A ^ E * A ^ E * A by rw [← Nat.pow_add, ← Nat.pow_succ]; congr 1; omega, fp_mul, fp_mul, hA', h]
    generalize fp (A ^ E) = z
    clear hA' hA e1 hk hE8
    grind
  rcases one_or_neg hk with hs | hs
  · have : rtW u v = u % PP := fp_inj (Nat.mod_lt _ PP_pos) (Nat.mod_lt _ PP_pos) (by rw [hW, hs, fp_mod]; grind)
    rw [decide_eq_true this, Bool.true_or]
  · have : rtW u v = (PP - u % PP) % PP := fp_inj (Nat.mod_lt _ PP_pos) (Nat.mod_lt _ PP_pos) (by rw [hW, hs, fp_mod, fp_neg]; grind)
    rw [decide_eq_true this, Bool.or_true]
theorem rtR_ltP (u v : Nat) : rtR u v < PP := by
  unfold rtR
  split
  · exact rtX_lt _ _
  · split
    · exact Nat.mod_lt _ PP_pos
    · exact PP_pos
/-! ### A point's bytes -/
def dU (y : Nat) : Nat := (y * y % PP + (PP - 1 % PP)) % PP
def dV (y : Nat) : Nat := (DD * (y * y % PP) % PP + 1) % PP
def dX (y : Nat) : Nat := rtR (dU y) (dV y)
def dB (y : Nat) : Bool := rtB (dU y) (dV y)
def top (V : Nat) : Bool := decide (2 ^ 255 ≤ V)
def xodd (x : Nat) : Bool := decide (x % PP % 2 = 1)
def dXf (y : Nat) (o : Bool) : Nat := if xodd (dX y) = o then dX y else (PP - dX y % PP) % PP
def dOk (V : Nat) : Bool := decide (V % 2 ^ 255 < PP) && dB (V % 2 ^ 255) && !(top V && decide (dX (V % 2 ^ 255) = 0))
def dPt (V : Nat) : Pr := (fp (dXf (V % 2 ^ 255) (top V)), fp (V % 2 ^ 255))
def enc (a : Pr) : Nat := a.2.val + 2 ^ 255 * (a.1.val % 2)
theorem fp_dU (y : Nat) : fp (dU y) = fp y * fp y - 1 := by unfold dU; rw [fp_mod, fp_add, fp_mod, fp_neg, fp_mul, fp_one]; grind
theorem fp_dV (y : Nat) : fp (dV y) = dd * (fp y * fp y) + 1 := by unfold dV; rw [fp_mod, fp_add, fp_mod, fp_mul, fp_mod, fp_mul, fp_one]; rfl
theorem dV_nz (y : Nat) : fp (dV y) ≠ 0 := by
  rw [fp_dV]
  intro h
  by_cases hy : fp y = 0
  · rw [hy] at h
    have e : dd * (0 * 0) + 1 = (1 : Fp) := by
      have : dd * (0 * 0) = 0 := by rw [Fin.mul_zero, Fin.mul_zero]
      rw [this]; decide +kernel
    rw [e] at h
    exact absurd h (by decide +kernel)
  · exact ns_quot (a := ii) hy (by have := ii_sq; grind)
theorem dX_sq {y : Nat} (h : dB y = true) : fp (dV y) * (fp (dX y) * fp (dX y)) = fp (dU y) := rt_sq h
theorem dXf_sq (y : Nat) (o : Bool) : fp (dXf y o) * fp (dXf y o) = fp (dX y) * fp (dX y) := by
  unfold dXf
  split
  · rfl
  · rw [fp_mod, fp_neg]; grind
theorem dPt_on {V : Nat} (h : dOk V = true) : OnC (dPt V) := by
  unfold dOk at h
  simp only [Bool.and_eq_true] at h
  have h1 := dX_sq h.1.2
  have h2 := dXf_sq (V % 2 ^ 255) (top V)
  rw [fp_dV, fp_dU] at h1
  unfold OnC dPt
  show fp (V % 2 ^ 255) * fp (V % 2 ^ 255) - fp (dXf (V % 2 ^ 255) (top V)) * fp (dXf (V % 2 ^ 255) (top V)) = 1 + dd * (fp (dXf (V % 2 ^ 255) (top V)) * fp (dXf (V % 2 ^ 255) (top V))) * (fp (V % 2 ^ 255) * fp (V % 2 ^ 255))
  rw [h2]
  generalize fp (V % 2 ^ 255) = y at *
  generalize fp (dX (V % 2 ^ 255)) = x at *
  clear h2 h
  grind
theorem dX_ltP (y : Nat) : dX y < PP := rtR_ltP _ _
theorem PP_odd : PP % 2 = 1 := by decide +kernel
theorem PP_top : PP < 2 ^ 255 := by decide +kernel
theorem odd_neg {x : Nat} (h0 : x ≠ 0) (hx : x < PP) : (PP - x) % 2 = 1 - x % 2 := by
  have := PP_odd
  omega
theorem dXf_par {y : Nat} {o : Bool} (h : ¬ (o = true ∧ dX y = 0)) : dXf y o < PP ∧ decide (dXf y o % 2 = 1) = o := by
  have hl := dX_ltP y
  unfold dXf xodd
  rw [Nat.mod_eq_of_lt hl]
  split
  · rename_i h1; exact ⟨hl, h1⟩
  · rename_i h1
    by_cases h0 : dX y = 0
    · rw [h0] at h1
      have : o = false := by
        cases o
        · rfl
        · exact absurd ⟨rfl, h0⟩ h
      rw [this] at h1
      exact absurd (by decide) h1
    · have h2 := odd_neg h0 hl
      have hP : (PP - dX y) % PP = PP - dX y := Nat.mod_eq_of_lt (by omega)
      rw [hP, h2]
      refine ⟨by omega, ?_⟩
      have hp := Nat.mod_two_eq_zero_or_one (dX y)
      rcases hp with hp | hp <;> rw [hp] at h1 ⊢ <;> cases o <;> simp_all
theorem enc_dec {V : Nat} (hV : V < 2 ^ 256) (h : dOk V = true) : enc (dPt V) = V := by
  unfold dOk at h
  simp only [Bool.and_eq_true, decide_eq_true_eq, Bool.not_eq_true', Bool.and_eq_false_iff, decide_eq_false_iff_not] at h
  obtain ⟨⟨h1, h2⟩, h3⟩ := h
  obtain ⟨h4, h5⟩ := dXf_par (y := V % 2 ^ 255) (o := top V) (by
    rintro ⟨a, b⟩
    rcases h3 with h3 | h3
    · rw [a] at h3; cases h3
    · exact h3 b)
  unfold enc dPt
  show (V % 2 ^ 255) % PP + 2 ^ 255 * (dXf (V % 2 ^ 255) (top V) % PP % 2) = V
  rw [Nat.mod_eq_of_lt h1, Nat.mod_eq_of_lt h4]
  have h6 : (dXf (V % 2 ^ 255) (top V)) % 2 = if 2 ^ 255 ≤ V then 1 else 0 := by
    generalize dXf (V % 2 ^ 255) (top V) = z at *
    unfold top at h5
    by_cases hz : 2 ^ 255 ≤ V
    · rw [if_pos hz]; simpa [hz] using h5
    · rw [if_neg hz]
      have : ¬ z % 2 = 1 := by simpa [hz] using h5
      omega
  rw [h6]
  have h7 := Nat.div_add_mod V (2 ^ 255)
  by_cases hz : 2 ^ 255 ≤ V
  · rw [if_pos hz]
    have : V / 2 ^ 255 = 1 := by omega
    rw [this] at h7; omega
  · rw [if_neg hz]
    have : V / 2 ^ 255 = 0 := by omega
    rw [this] at h7; omega
theorem enc_top (a : Pr) : enc a % 2 ^ 255 = a.2.val ∧ top (enc a) = decide (a.1.val % 2 = 1) ∧ enc a < 2 ^ 256 := by
  have h1 := a.2.isLt
  have h2 := PP_top
  unfold enc top
  refine ⟨by omega, ?_, by omega⟩
  by_cases h : a.1.val % 2 = 1
  · rw [decide_eq_true h, h]; exact decide_eq_true (by omega)
  · rw [decide_eq_false h]; exact decide_eq_false (by omega)
theorem dec_enc {a : Pr} (h : OnC a) : dOk (enc a) = true ∧ dPt (enc a) = a := by
  obtain ⟨e1, e2, e3⟩ := enc_top a
  have hv := dV_nz a.2.val
  have hu : fp (dU a.2.val) = fp (dV a.2.val) * (fp a.1.val * fp a.1.val) := by
    rw [fp_dU, fp_dV, fp_self, fp_self]
    unfold OnC at h
    grind
  have hb : dB a.2.val = true := rt_quot hv hu
  have hs := dX_sq hb
  rw [hu] at hs
  have hx : fp (dX a.2.val) = a.1 ∨ fp (dX a.2.val) = - a.1 := by
    have := cancel hv hs
    rw [fp_self] at this
    exact sq_eq this
  have hl := dX_ltP a.2.val
  have hx0 : dX a.2.val = 0 → a.1.val = 0 := by
    intro h0
    rw [h0, fp_zero] at hx
    have : a.1 = 0 := by rcases hx with h | h <;> grind
    rw [this]; rfl
  have hn : ¬ (top (enc a) = true ∧ dX a.2.val = 0) := by
    rintro ⟨p1, p2⟩
    rw [e2, hx0 p2] at p1
    cases p1
  refine ⟨?_, ?_⟩
  · unfold dOk
    rw [e1, hb, decide_eq_true a.2.isLt]
    cases ht : top (enc a)
    · rfl
    · have : ¬ dX a.2.val = 0 := fun h0 => hn ⟨ht, h0⟩
      simp [this]
  · unfold dPt
    rw [e1]
    refine Prod.ext ?_ (fp_self _)
    show fp (dXf a.2.val (top (enc a))) = a.1
    obtain ⟨p1, p2⟩ := dXf_par hn
    have hz : fp (dXf a.2.val (top (enc a))) = a.1 ∨ fp (dXf a.2.val (top (enc a))) = -a.1 := by
      have := dXf_sq a.2.val (top (enc a))
      have h3 := cancel hv hs
      rw [fp_self] at h3
      exact sq_eq (by rw [this, h3])
    rcases hz with hz | hz
    · exact hz
    · rw [e2] at p1 p2 hz ⊢
      generalize dXf a.2.val (decide (a.1.val % 2 = 1)) = z at *
      have hz2 : z = (PP - a.1.val % PP) % PP := fp_inj p1 (Nat.mod_lt _ PP_pos) (by rw [hz, fp_mod, fp_neg, fp_self])
      rw [Nat.mod_eq_of_lt a.1.isLt] at hz2
      by_cases h0 : a.1.val = 0
      · have : a.1 = 0 := Fin.ext h0
        rw [hz, this]; decide +kernel
      · exfalso
        rw [Nat.mod_eq_of_lt (by omega : PP - a.1.val < PP)] at hz2
        have h4 := odd_neg h0 a.1.isLt
        rw [← hz2] at h4
        have h5 := Nat.mod_two_eq_zero_or_one a.1.val
        rcases h5 with h5 | h5 <;> rw [h5] at h4 p2 <;> rw [h4] at p2 <;> cases p2
theorem enc_inj {a b : Pr} (ha : OnC a) (hb : OnC b) (h : enc a = enc b) : a = b := by
  rw [← (dec_enc ha).2, h, (dec_enc hb).2]
end Go.Proofs.YtghajiagbfcmdaaDoor
