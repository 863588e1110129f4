/- Plain number theory: Lucas' test; what a prime's generator gives; that 2^255 - 19 is a prime. No conditions. The field of 2^255 - 19 as a ring of Lean's; inverses; roots. No conditions. custumalref05.carry. Conditions: no part is less than nought or more than 2^50. custumalref05.tidy. Conditions: no part is less than nought or more than 2^50. custumalref05.Add, Of, Parts. No conditions. custumalref05.Of and Parts. No conditions. custumalref05.Neg, Sub. Conditions: the number is not beyond the modulus. custumalref05.Mul. No conditions. custumalref05.Pow, Inv, I. No conditions. custumalref05.Root. Conditions: the first number is below the modulus. custumalref05.Bytes: 16 parts as 32 bytes. No conditions. custumalref05.FromBytes. Conditions: the text is 32 bytes. -/
import Derived.Test.YtejkmhgkkibafaaGreatDoorJ8
import Derived.Test.YtejkmhgkkibafaaGreatDoorOz
import Derived.Test.YtejkmhgkkibafaaGreatDoorJ11
import Derived.Test.YtejkmhgkkibafaaGreatDoorS8Eb
import Derived.Test.YtejkmhgkkibafaaGreatDoorGc
import Derived.Test.YtejkmhgkkibafaaGreatDoorGa
import Derived.Test.YtejkmhgkkibafaaGreatDoorGb
import Derived.Test.YtejkmhgkkibafaaGreatDoorS8Ea
set_option linter.unusedSimpArgs false
set_option linter.unusedVariables false
namespace Go.Proofs.YtejkmhgkkibafaaGreatDoor.S8

/-- a prime -/
def Prm (p : Nat) : Prop := 2 ≤ p ∧ ∀ d, d ∣ p → d = 1 ∨ d = p
theorem Prm.cop {q d : Nat} (hq : Prm q) (h : ¬ q ∣ d) : Nat.Coprime q d := by
  rcases hq.2 (Nat.gcd q d) (Nat.gcd_dvd_left q d) with h1 | h1
  · exact h1
  · have h2 := Nat.gcd_dvd_right q d
    rw [h1] at h2
    exact absurd h2 h
def lprod : List Nat → Nat
  | [] => 1
  | q :: l => q * lprod l
theorem mem_lprod : ∀ {fs : List Nat} {q : Nat}, q ∈ fs → q ∣ lprod fs
  | r :: l, q, h => by
    rcases List.mem_cons.1 h with rfl | h
    · exact Nat.dvd_mul_right _ _
    · exact Nat.dvd_trans (mem_lprod h) (Nat.dvd_mul_left _ _)
theorem dvd_lprod : ∀ (fs : List Nat), (∀ q ∈ fs, Prm q) → ∀ d, d ∣ lprod fs → d = lprod fs ∨ ∃ q ∈ fs, d ∣ lprod fs / q
  | [], _, d, h => .inl (Nat.dvd_one.1 h)
  | q :: l, hp, d, h => by
    have hq := hp q (List.mem_cons_self ..)
    have q0 : 0 < q := by have := hq.1; omega
    by_cases hd : q ∣ d
    · obtain ⟨e, rfl⟩ := hd
      have he : e ∣ lprod l := Nat.dvd_of_mul_dvd_mul_left q0 h
      rcases dvd_lprod l (fun r hr => hp r (List.mem_cons_of_mem _ hr)) e he with rfl | ⟨r, hr, h2⟩
      · exact .inl rfl
      · refine .inr ⟨r, List.mem_cons_of_mem _ hr, ?_⟩
        show q * e ∣ q * lprod l / r
        rw [Nat.mul_div_assoc q (mem_lprod hr)]
        exact Nat.mul_dvd_mul_left q h2
    · refine .inr ⟨q, List.mem_cons_self .., ?_⟩
      show d ∣ q * lprod l / q
      rw [Nat.mul_div_cancel_left _ q0]
      exact (hq.cop hd).symm.dvd_of_dvd_mul_left h
theorem pow_one_mul {n g a : Nat} (h : g ^ a % n = 1 % n) (k : Nat) : g ^ (a * k) % n = 1 % n := by
  rw [Nat.pow_mul, Nat.pow_mod, h, ← Nat.pow_mod, Nat.one_pow]
theorem pow_gcd {n g : Nat} (a b : Nat) : g ^ a % n = 1 % n → g ^ b % n = 1 % n → g ^ (Nat.gcd a b) % n = 1 % n := by
  induction a, b using Nat.gcd.induction with
  | H0 b => intro _ h; rw [Nat.gcd_zero_left]; exact h
  | H1 a b ha ih =>
    intro h1 h2
    rw [Nat.gcd_rec]
    refine ih ?_ h1
    have e : g ^ b = g ^ (a * (b / a)) * g ^ (b % a) := by rw [← Nat.pow_add, Nat.div_add_mod]
    rw [e, Nat.mul_mod, pow_one_mul h1, ← Nat.mul_mod, Nat.one_mul] at h2
    exact h2
/-- g's powers below n - 1 are not one, that of n - 1 is -/
structure Gen (n g : Nat) : Prop where
  two : 2 ≤ n
  one : g ^ (n - 1) % n = 1
  low : ∀ k, 0 < k → k < n - 1 → g ^ k % n ≠ 1
theorem gen_of {n g : Nat} (fs : List Nat) (h2 : 2 ≤ n) (hp : ∀ q ∈ fs, Prm q) (hf : lprod fs = n - 1) (h1 : g ^ (n - 1) % n = 1)
    (hq : ∀ q ∈ fs, g ^ ((n - 1) / q) % n ≠ 1) : Gen n g := by
  have e1 : 1 % n = 1 := Nat.mod_eq_of_lt h2
  refine ⟨h2, h1, fun k k0 kn hk => ?_⟩
  have hg := pow_gcd (n := n) (g := g) k (n - 1) (by rw [e1]; exact hk) (by rw [e1]; exact h1)
  have hd : Nat.gcd k (n - 1) ∣ lprod fs := by rw [hf]; exact Nat.gcd_dvd_right _ _
  have hl := Nat.le_of_dvd k0 (Nat.gcd_dvd_left k (n - 1))
  rcases dvd_lprod fs hp _ hd with h | ⟨q, hqm, h⟩
  · omega
  · obtain ⟨c, hc⟩ := h
    have := pow_one_mul hg c
    rw [← hc, hf, e1] at this
    exact hq q hqm this
theorem surj_of_inj : ∀ (n : Nat) (f : Nat → Nat), (∀ i, i < n → f i < n) → (∀ i j, i < n → j < n → f i = f j → i = j) → ∀ y, y < n → ∃ i, i < n ∧ f i = y
  | 0, _, _, _, y, hy => absurd hy (Nat.not_lt_zero y)
  | n + 1, f, hf, hi, y, hy => by
    have hn := hf n (Nat.lt_succ_self n)
    have ih := surj_of_inj n (fun i => if f i = n then f n else f i)
      (fun i hin => by
        have h1 := hf i (by omega)
        show (if f i = n then f n else f i) < n
        split
        · rename_i h
          have : f n ≠ n := fun h2 => by have := hi i n (by omega) (by omega) (h.trans h2.symm); omega
          omega
        · omega)
      (fun i j hin hjn h => by
        have h : (if f i = n then f n else f i) = (if f j = n then f n else f j) := h
        split at h <;> split at h
        · rename_i a b; exact hi i j (by omega) (by omega) (a.trans b.symm)
        · have := hi n j (by omega) (by omega) h; omega
        · have := hi i n (by omega) (by omega) h; omega
        · exact hi i j (by omega) (by omega) h)
    by_cases h1 : y = f n
    · exact ⟨n, Nat.lt_succ_self n, h1.symm⟩
    · by_cases h2 : y = n
      · obtain ⟨i, hin, h⟩ := ih (f n) (by omega)
        have h : (if f i = n then f n else f i) = f n := h
        split at h
        · rename_i a; exact ⟨i, by omega, a.trans h2.symm⟩
        · have := hi i n (by omega) (by omega) h; omega
      · obtain ⟨i, hin, h⟩ := ih y (by omega)
        have h : (if f i = n then f n else f i) = y := h
        split at h
        · exact absurd h.symm h1
        · exact ⟨i, by omega, h⟩
theorem Gen.nz {n g : Nat} (h : Gen n g) (k : Nat) : g ^ k % n ≠ 0 := by
  intro h0
  have h1 : g ^ (k * (n - 1)) % n = 1 := by
    have := pow_one_mul (n := n) (g := g) (a := n - 1) (by rw [h.one, Nat.mod_eq_of_lt h.two]) k
    rw [Nat.mul_comm, this, Nat.mod_eq_of_lt h.two]
  have hn := h.two
  have : g ^ (k * (n - 1)) % n = 0 := by
    rw [Nat.pow_mul, Nat.pow_mod, h0, Nat.zero_pow (by omega), Nat.zero_mod]
  omega
theorem Gen.inj {n g : Nat} (h : Gen n g) : ∀ i j, i < n - 1 → j < n - 1 → g ^ i % n = g ^ j % n → i = j := by
  have key : ∀ i j, i < j → j < n - 1 → g ^ i % n ≠ g ^ j % n := by
    intro i j hij hj he
    refine h.low (j - i) (by omega) (by omega) ?_
    have e1 : g ^ (n - 1 - i) * g ^ i % n = 1 := by rw [← Nat.pow_add, show n - 1 - i + i = n - 1 by omega]; exact h.one
    have e2 : g ^ (n - 1 - i) * g ^ j % n = 1 := by rw [Nat.mul_mod, ← he, ← Nat.mul_mod]; exact e1
    rw [← Nat.pow_add, show n - 1 - i + j = (n - 1) + (j - i) by omega, Nat.pow_add, Nat.mul_mod, h.one, Nat.one_mul, Nat.mod_mod] at e2
    exact e2
  intro i j hi hj he
  rcases Nat.lt_trichotomy i j with h1 | h1 | h1
  · exact absurd he (key i j h1 hj)
  · exact h1
  · exact absurd he.symm (key j i h1 hi)
theorem Gen.all {n g : Nat} (h : Gen n g) {a : Nat} (h0 : a % n ≠ 0) : ∃ k, k < n - 1 ∧ g ^ k % n = a % n := by
  have hn := h.two
  obtain ⟨k, hk, he⟩ := surj_of_inj (n - 1) (fun i => g ^ i % n - 1)
    (fun i _ => by
      have := Nat.mod_lt (g ^ i) (show n > 0 by omega)
      have := h.nz i
      show g ^ i % n - 1 < n - 1
      omega)
    (fun i j hi hj he => by
      have he : g ^ i % n - 1 = g ^ j % n - 1 := he
      have h1 := h.nz i
      have h2 := h.nz j
      exact h.inj i j hi hj (by omega)) (a % n - 1) (by have := Nat.mod_lt a (show n > 0 by omega); omega)
  have he : g ^ k % n - 1 = a % n - 1 := he
  have := h.nz k
  exact ⟨k, hk, by omega⟩
theorem Gen.fermat {n g : Nat} (h : Gen n g) {a : Nat} (h0 : a % n ≠ 0) : a ^ (n - 1) % n = 1 := by
  obtain ⟨k, _, he⟩ := h.all h0
  rw [Nat.pow_mod, ← he, ← Nat.pow_mod, ← Nat.pow_mul, Nat.mul_comm, pow_one_mul (by rw [h.one, Nat.mod_eq_of_lt h.two]), Nat.mod_eq_of_lt h.two]
theorem Gen.prm {n g : Nat} (h : Gen n g) : Prm n := by
  have hn := h.two
  refine ⟨hn, fun d hd => ?_⟩
  by_cases hdn : d = n
  · exact .inr hdn
  · have hl := Nat.le_of_dvd (by omega) hd
    have d0 : 0 < d := Nat.pos_of_dvd_of_pos hd (by omega)
    have hf := h.fermat (a := d) (by rw [Nat.mod_eq_of_lt (by omega)]; omega)
    obtain ⟨c, hc⟩ := hd
    have hn1 : n - 1 = (n - 2) + 1 := by omega
    have e := Nat.div_add_mod (d ^ (n - 1)) n
    rw [hf] at e
    rw [hn1, Nat.pow_succ] at e
    have h1 : d ∣ 1 := (Nat.dvd_add_right (show d ∣ n * (d ^ (n - 2) * d / n) from ⟨c * (d ^ (n - 2) * d / n), by rw [← Nat.mul_assoc, ← hc]⟩)).1 ⟨d ^ (n - 2), by rw [e, Nat.mul_comm]⟩
    exact .inl (Nat.dvd_one.1 h1)
/-- the power, reckoned bit by bit from the top -/
def tp (n A e : Nat) : Nat → Nat
  | 0 => 1 % n
  | c + 1 => if e / 2 ^ (255 - c) % 2 = 1 then (tp n A e c * tp n A e c % n) * A % n else tp n A e c * tp n A e c % n
theorem tp_eq (n A e : Nat) (he : e < 2 ^ 256) : ∀ c, c ≤ 256 → tp n A e c = A ^ (e / 2 ^ (256 - c)) % n
  | 0, _ => by rw [show 256 - 0 = 256 by decide, Nat.div_eq_of_lt he, Nat.pow_zero]; rfl
  | c + 1, h => by
    have ih := tp_eq n A e he c (by omega)
    rw [show 256 - c = (255 - c) + 1 by omega] at ih
    rw [show 256 - (c + 1) = 255 - c by omega]
    have e2 : e / 2 ^ (255 - c + 1) = e / 2 ^ (255 - c) / 2 := by rw [Nat.pow_succ, Nat.div_div_eq_div_mul]
    rw [e2] at ih
    unfold tp
    generalize e / 2 ^ (255 - c) = m at *
    rw [ih, ← Nat.mul_mod, ← Nat.pow_add]
    have hm := Nat.div_add_mod m 2
    split
    · rename_i h1
      rw [Nat.mod_mul_mod, ← Nat.pow_succ, show (m / 2 + m / 2).succ = m by omega]
    · rw [show m / 2 + m / 2 = m by omega]
theorem tp_all {n A e : Nat} (he : e < 2 ^ 256) : A ^ e % n = tp n A e 256 := by
  rw [tp_eq n A e he 256 (Nat.le_refl _), Nat.sub_self, Nat.pow_zero, Nat.div_one]
def lucasB (n g : Nat) (fs : List Nat) : Bool :=
  decide (2 ≤ n) && decide (n < 2 ^ 256) && decide (lprod fs = n - 1) && decide (tp n g (n - 1) 256 = 1) && fs.all (fun q => decide (tp n g ((n - 1) / q) 256 ≠ 1))
theorem gen_B {n g : Nat} (fs : List Nat) (hp : ∀ q ∈ fs, Prm q) (h : lucasB n g fs = true) : Gen n g := by
  unfold lucasB at h
  simp only [Bool.and_eq_true, decide_eq_true_eq, List.all_eq_true] at h
  obtain ⟨⟨⟨⟨h1, h2⟩, h3⟩, h4⟩, h5⟩ := h
  refine gen_of fs h1 hp h3 (by rw [tp_all (by omega)]; exact h4) (fun q hq => ?_)
  have hl := Nat.div_le_self (n - 1) q
  rw [tp_all (by omega)]
  exact h5 q hq
/-- trial division below k -/
def trialB (n k : Nat) : Bool := decide (2 ≤ n) && decide (n < k * k) && (List.range k).all fun d => decide (d < 2) || decide (n % d ≠ 0) || decide (n ≤ d)
theorem prm_trial {n : Nat} (k : Nat) (h : trialB n k = true) : Prm n := by
  unfold trialB at h
  simp only [Bool.and_eq_true, decide_eq_true_eq, List.all_eq_true, Bool.or_eq_true, List.mem_range] at h
  obtain ⟨⟨h1, h2⟩, h3⟩ := h
  have key : ∀ d, d ∣ n → d < k → d = 1 ∨ d = n := by
    intro d hd hk
    have h4 := Nat.le_of_dvd (by omega) hd
    have h5 := Nat.pos_of_dvd_of_pos hd (by omega)
    rcases h3 d hk with (h | h) | h
    · omega
    · exact absurd (Nat.mod_eq_zero_of_dvd hd) h
    · omega
  refine ⟨h1, fun d hd => ?_⟩
  by_cases hk : d < k
  · exact key d hd hk
  · obtain ⟨e, he⟩ := hd
    have e0 : e < k := by
      refine Nat.lt_of_not_le fun hek => ?_
      have := Nat.mul_le_mul (show k ≤ d by omega) hek
      omega
    rcases key e ⟨d, by rw [he, Nat.mul_comm]⟩ e0 with h | h
    · exact .inr (by rw [he, h, Nat.mul_one])
    · subst h
      have : e * d = e * 1 := by rw [Nat.mul_one, Nat.mul_comm]; exact he.symm
      exact .inl (Nat.eq_of_mul_eq_mul_left (by omega) this)
theorem prms_of {l : List Nat} (k : Nat) (h : (l.all fun n => trialB n k) = true) : ∀ q ∈ l, Prm q :=
  fun q hq => prm_trial k (List.all_eq_true.1 h q hq)
theorem prms_app {l m : List Nat} (h : ∀ q ∈ l, Prm q) (k : ∀ q ∈ m, Prm q) : ∀ q ∈ l ++ m, Prm q :=
  fun q hq => (List.mem_append.1 hq).elim (h q) (k q)
theorem prms_one {n : Nat} (h : Prm n) : ∀ q ∈ [n], Prm q := fun q hq => by rw [List.mem_singleton.1 hq]; exact h
section
set_option maxRecDepth 100000
theorem prm_a : Prm 1923133 := (gen_B (n := 1923133) (g := 2) [2, 2, 3, 43, 3727] (prms_of 70 (by decide +kernel)) (by decide +kernel)).prm
theorem prm_b : Prm 31757755568855353 := (gen_B (n := 31757755568855353) (g := 10) [2, 2, 2, 3, 31, 107, 223, 4153, 430751] (prms_of 660 (by decide +kernel)) (by decide +kernel)).prm
theorem prm_c : Prm 8574133 := (gen_B (n := 8574133) (g := 2) [2, 2, 3, 7, 103, 991] (prms_of 40 (by decide +kernel)) (by decide +kernel)).prm
theorem prm_d : Prm 1919519569386763 := (gen_B (n := 1919519569386763) (g := 2) ([2, 3, 7, 19, 47, 47, 127] ++ [8574133]) (prms_app (prms_of 40 (by decide +kernel)) (prms_one prm_c)) (by decide +kernel)).prm
theorem prm_e : Prm 2773320623 := (gen_B (n := 2773320623) (g := 5) [2, 2437, 569003] (prms_of 760 (by decide +kernel)) (by decide +kernel)).prm
theorem prm_f : Prm 72106336199 := (gen_B (n := 72106336199) (g := 7) ([2, 13] ++ [2773320623]) (prms_app (prms_of 40 (by decide +kernel)) (prms_one prm_e)) (by decide +kernel)).prm
theorem prm_g : Prm 75445702479781427272750846543864801 := (gen_B (n := 75445702479781427272750846543864801) (g := 7) ([2, 2, 2, 2, 2, 3, 3, 5, 5, 75707] ++ ([72106336199] ++ [1919519569386763])) (prms_app (prms_of 300 (by decide +kernel)) (prms_app (prms_one prm_f) (prms_one prm_d))) (by decide +kernel)).prm
theorem prm_h : Prm 74058212732561358302231226437062788676166966415465897661863160754340907 := (gen_B (n := 74058212732561358302231226437062788676166966415465897661863160754340907) (g := 2) ([2, 3, 353, 57467, 132049] ++ ([1923133] ++ ([31757755568855353] ++ [75445702479781427272750846543864801]))) (prms_app (prms_of 400 (by decide +kernel)) (prms_app (prms_one prm_a) (prms_app (prms_one prm_b) (prms_one prm_g)))) (by decide +kernel)).prm
theorem gen_pp : Gen 57896044618658097711785492504343953926634992332820282019728792003956564819949 2 := gen_B ([2, 2, 3, 65147] ++ [74058212732561358302231226437062788676166966415465897661863160754340907]) (prms_app (prms_of 300 (by decide +kernel)) (prms_one prm_h)) (by decide +kernel)
end
end Go.Proofs.YtejkmhgkkibafaaGreatDoor.S8

namespace Go.Proofs.YtejkmhgkkibafaaGreatDoor.S8

abbrev Fp := Fin PP
instance instNeZeroPP : NeZero PP := ⟨by decide +kernel⟩
def fp (A : Nat) : Fp := Fin.ofNat PP A
theorem fp_val (A : Nat) : (fp A).val = A % PP := rfl
theorem fp_eq {A B : Nat} : fp A = fp B ↔ A % PP = B % PP := ⟨fun h => congrArg Fin.val h, fun h => Fin.ext h⟩
theorem fp_mod (A : Nat) : fp (A % PP) = fp A := fp_eq.2 (Nat.mod_mod _ _)
theorem fp_mul (A B : Nat) : fp (A * B) = fp A * fp B := Fin.ext (by show A * B % PP = (A % PP) * (B % PP) % PP; rw [← Nat.mul_mod])
theorem fp_add (A B : Nat) : fp (A + B) = fp A + fp B := Fin.ext (by show (A + B) % PP = (A % PP + B % PP) % PP; rw [← Nat.add_mod])
theorem fp_zero : fp 0 = 0 := rfl
theorem fp_one : fp 1 = 1 := rfl
theorem PP_pos : 0 < PP := by decide +kernel
theorem fp_PP : fp PP = 0 := fp_eq.2 (by rw [Nat.mod_self, Nat.zero_mod])
theorem fp_neg (A : Nat) : fp (PP - A % PP) = - fp A := by
  have h := fp_add (PP - A % PP) (A % PP)
  rw [Nat.sub_add_cancel (Nat.le_of_lt (Nat.mod_lt _ PP_pos)), fp_PP, fp_mod] at h
  grind
theorem fp_inj {A B : Nat} (hA : A < PP) (hB : B < PP) (h : fp A = fp B) : A = B := by
  have := fp_eq.1 h
  rwa [Nat.mod_eq_of_lt hA, Nat.mod_eq_of_lt hB] at this
theorem fp_self (x : Fp) : fp x.val = x := Fin.ext (Nat.mod_eq_of_lt x.isLt)
theorem fp_nz {A : Nat} (h : fp A ≠ 0) : A % PP ≠ 0 := fun e => h (by rw [← fp_zero]; exact fp_eq.2 (by rw [e, Nat.zero_mod]))
theorem genP : Gen PP 2 := gen_pp
/-- the inverse, that of nought being nought -/
def finv (x : Fp) : Fp := fp (x.val ^ (PP - 2))
theorem finv_mul {x : Fp} (h : x ≠ 0) : x * finv x = 1 := by
  have h0 : x.val % PP ≠ 0 := fp_nz (by rw [fp_self]; exact h)
  have h1 := genP.fermat h0
  rw [← fp_self x, show finv (fp x.val) = fp (x.val ^ (PP - 2)) by rw [fp_self]; rfl, ← fp_mul, ← fp_one]
  refine fp_eq.2 ?_
  rw [Nat.mul_comm, ← Nat.pow_succ, show (PP - 2).succ = PP - 1 by decide +kernel, h1]
  decide +kernel
theorem zero_prod {x y : Fp} (h : x * y = 0) : x = 0 ∨ y = 0 := by
  by_cases hx : x = 0
  · exact .inl hx
  · have := finv_mul hx
    exact .inr (by grind)
theorem sq_eq {x y : Fp} (h : x * x = y * y) : x = y ∨ x = -y := by
  have h1 : (x - y) * (x + y) = 0 := by grind
  rcases zero_prod h1 with h2 | h2
  · exact .inl (by grind)
  · exact .inr (by grind)
theorem fp_pw (A n : Nat) : fp (pw A n) = fp (A ^ n) := fp_mod _
theorem rtX_lt (u v : Nat) : rtX u v < PP := Nat.mod_lt _ PP_pos
theorem fp_v3 (v : Nat) : fp (v3 v) = fp v * fp v * fp v := by unfold v3; simp only [fp_mod, fp_mul]
theorem fp_v7 (v : Nat) : fp (v7 v) = fp (v3 v) * fp (v3 v) * fp v := by unfold v7; simp only [fp_mod, fp_mul]
theorem fp_W (u v : Nat) : fp (rtW u v) = fp v * (fp (rtX u v) * fp (rtX u v)) := by unfold rtW; simp only [fp_mod, fp_mul]
theorem fp_II : fp II * fp II = -1 := by
  rw [← fp_mul]
  have h : fp (II * II) + fp 1 = 0 := by
    rw [← fp_add, ← fp_PP]; exact fp_eq.2 (by decide +kernel)
  rw [fp_one] at h
  grind
/-- a root's square, times v, is u -/
theorem rt_sq {u v : Nat} (h : rtB u v = true) : fp v * (fp (rtR u v) * fp (rtR u v)) = fp u := by
  unfold rtB at h
  unfold rtR
  have hW := fp_W u v
  by_cases h1 : rtW u v = u % PP
  · rw [if_pos h1, ← hW, h1, fp_mod]
  · rw [if_neg h1]
    rw [decide_eq_false h1, Bool.false_or, decide_eq_true_eq] at h
    rw [if_pos h, fp_mod, fp_mul]
    rw [h, fp_mod, fp_neg] at hW
    have := fp_II
    grind
theorem one_or_neg {s : Fp} (h : s * s = 1) : s = 1 ∨ s = -1 := sq_eq (by grind)
end Go.Proofs.YtejkmhgkkibafaaGreatDoor.S8

set_option linter.unusedSimpArgs false
set_option linter.unusedVariables false
namespace Go.Proofs.YtejkmhgkkibafaaGreatDoor.S8
set_option maxHeartbeats 4000000
set_option maxRecDepth 100000
open Go.RowKit

end Go.Proofs.YtejkmhgkkibafaaGreatDoor.S8

namespace Go.Proofs.YtejkmhgkkibafaaGreatDoor.S8
set_option maxHeartbeats 4000000
set_option maxRecDepth 100000
open Go.RowKit

end Go.Proofs.YtejkmhgkkibafaaGreatDoor.S8

namespace Go.Proofs.YtejkmhgkkibafaaGreatDoor.S8
set_option maxHeartbeats 4000000
set_option maxRecDepth 100000
open Go.RowKit

end Go.Proofs.YtejkmhgkkibafaaGreatDoor.S8

namespace Go.Proofs.YtejkmhgkkibafaaGreatDoor.S8
set_option maxHeartbeats 4000000
set_option maxRecDepth 100000
open Go.RowKit

end Go.Proofs.YtejkmhgkkibafaaGreatDoor.S8

namespace Go.Proofs.YtejkmhgkkibafaaGreatDoor.S8
set_option maxHeartbeats 4000000
set_option maxRecDepth 100000
open Go.RowKit

end Go.Proofs.YtejkmhgkkibafaaGreatDoor.S8

namespace Go.Proofs.YtejkmhgkkibafaaGreatDoor.S8
set_option maxHeartbeats 4000000
set_option maxRecDepth 100000
open Go.RowKit

end Go.Proofs.YtejkmhgkkibafaaGreatDoor.S8

set_option linter.unusedSimpArgs false
set_option linter.unusedVariables false
namespace Go.Proofs.YtejkmhgkkibafaaGreatDoor.S8
set_option maxHeartbeats 4000000
set_option maxRecDepth 100000
open Go.RowKit

/-- the power, bit by bit from the top -/
def mp (A n : Nat) : Nat → Nat
  | 0 => 1
  | c + 1 => if n / 2 ^ (255 - c) % 2 = 1 then (mp A n c * mp A n c % PP) * A % PP else mp A n c * mp A n c % PP
theorem mp_eq (A n : Nat) (hn : n < P256) : ∀ c, c ≤ 256 → mp A n c = pw A (n / 2 ^ (256 - c))
  | 0, _ => by rw [show 256 - 0 = 256 by decide, Nat.div_eq_of_lt (show n < 2 ^ 256 from hn), pw_zero]; rfl
  | c + 1, h => by
    have ih := mp_eq A n hn c (by omega)
    rw [show 256 - c = (255 - c) + 1 by omega] at ih
    rw [show 256 - (c + 1) = 255 - c by omega]
    unfold mp
    rw [ih]
    split
    · rename_i h1; exact pw_half1 A n _ h1
    · rename_i h1; exact pw_half A n _ (by omega)
theorem pw_mp (A n : Nat) (hn : n < P256) : pw A n = mp A n 256 := by
  rw [mp_eq A n hn 256 (by omega), show 256 - 256 = 0 by decide, Nat.pow_zero, Nat.div_one]
end Go.Proofs.YtejkmhgkkibafaaGreatDoor.S8

namespace Go.Proofs.YtejkmhgkkibafaaGreatDoor.S8
set_option maxHeartbeats 4000000
set_option maxRecDepth 100000
open Go.RowKit

theorem lt_256 {A : Nat} (h : A < PP) : A < P256 := Nat.lt_trans h PP_lt

end Go.Proofs.YtejkmhgkkibafaaGreatDoor.S8

namespace Go.Proofs.YtejkmhgkkibafaaGreatDoor.S8
set_option maxHeartbeats 4000000
set_option maxRecDepth 100000
open Go.RowKit

end Go.Proofs.YtejkmhgkkibafaaGreatDoor.S8

namespace Go.Proofs.YtejkmhgkkibafaaGreatDoor.S8
set_option maxHeartbeats 4000000
set_option maxRecDepth 100000
open Go.RowKit

end Go.Proofs.YtejkmhgkkibafaaGreatDoor.S8
