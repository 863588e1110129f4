/- Contracts and plain laws that superChecks_holds rests on. Conditions: the variables' cells hold the numbers of the program's text. -/
import Derived.Test.YtejkmhgkkibafaaGreatDoorJ6
import Derived.Test.YtejkmhgkkibafaaGreatDoorJ3
import Derived.Test.YtejkmhgkkibafaaGreatDoorJ8
import Derived.Test.YtejkmhgkkibafaaGreatDoorS8Eb
set_option linter.unusedSimpArgs false
set_option linter.unusedVariables false
namespace Go.Proofs.YtejkmhgkkibafaaGreatDoor.S8
section

def Prm (p : Nat) : Prop := 2 ≤ p ∧ ∀ d, d ∣ p → d = 1 ∨ d = p
theorem Prm.cop {q d : Nat} (hq : Prm q) (h : ¬ q ∣ d) : Nat.Coprime q d := by
  rcases hq.2 (Nat.gcd q d) (Nat.gcd_dvd_left q d) with h1 | h1
  · exact h1
  have h2 := Nat.gcd_dvd_right q d
  rw [h1] at h2
  exact absurd h2 h
def J7e : List Nat → Nat
  | [] => 1
  | q :: l => q * J7e l
theorem Q42 : ∀ {fs : List Nat} {q : Nat}, q ∈ fs → q ∣ J7e fs
  | r :: l, q, h => by
    rcases List.mem_cons.1 h with rfl | h
    · exact Nat.dvd_mul_right _ _
    · exact Nat.dvd_trans (Q42 h) (Nat.dvd_mul_left _ _)
theorem Q43 : ∀ (fs : List Nat), (∀ q ∈ fs, Prm q) → ∀ d, d ∣ J7e fs → d = J7e fs ∨ ∃ q ∈ fs, d ∣ J7e fs / q
  | [], _, d, h => .inl (Nat.dvd_one.1 h)
  | q :: l, hp, d, h => by
    have hq := hp q (List.mem_cons_self ..)
    have q0 : 0 < q := by have := hq.1; omega
    by_cases hd : q ∣ d
    · obtain ⟨e, rfl⟩ := hd
      have he : e ∣ J7e l := Nat.dvd_of_mul_dvd_mul_left q0 h
      rcases Q43 l (fun r hr => hp r (List.mem_cons_of_mem _ hr)) e he with rfl | ⟨r, hr, h2⟩
      · exact .inl rfl
      · refine .inr ⟨r, List.mem_cons_of_mem _ hr, ?_⟩
        show q * e ∣ q * J7e l / r
        rw [Nat.mul_div_assoc q (Q42 hr)]
        exact Nat.mul_dvd_mul_left q h2
    · refine .inr ⟨q, List.mem_cons_self .., ?_⟩
      show d ∣ q * J7e l / q
      rw [Nat.mul_div_cancel_left _ q0]
      exact (hq.cop hd).symm.dvd_of_dvd_mul_left h
theorem J59 {n g a : Nat} (h : g ^ a % n = 1 % n) (k : Nat) : g ^ (a * k) % n = 1 % n := by
  rw [Nat.pow_mul, Nat.pow_mod, h, ← Nat.pow_mod, Nat.one_pow]
theorem Y17 {n g : Nat} (a b : Nat) : g ^ a % n = 1 % n → g ^ b % n = 1 % n → g ^ (Nat.gcd a b) % n = 1 % n := by
  induction a, b using Nat.gcd.induction with
  | H0 b => intro _ h; rw [Nat.gcd_zero_left]; exact h
  | H1 a b ha ih =>
    intro h1 h2
    rw [Nat.gcd_rec]
    refine ih ?_ h1
    have e : g ^ b = g ^ (a * (b / a)) * g ^ (b % a) := by rw [← Nat.pow_add, Nat.div_add_mod]
    rw [e, Nat.mul_mod, J59 h1, ← Nat.mul_mod, Nat.one_mul] at h2
    exact h2
structure Gen (n g : Nat) : Prop where
  two : 2 ≤ n
  one : g ^ (n - 1) % n = 1
  low : ∀ k, 0 < k → k < n - 1 → g ^ k % n ≠ 1
theorem Y70 {n g : Nat} (fs : List Nat) (h2 : 2 ≤ n) (hp : ∀ q ∈ fs, Prm q) (hf : J7e fs = n - 1) (h1 : g ^ (n - 1) % n = 1)
    (hq : ∀ q ∈ fs, g ^ ((n - 1) / q) % n ≠ 1) : Gen n g := by
  have e1 : 1 % n = 1 := Nat.mod_eq_of_lt h2
  refine ⟨h2, h1, fun k k0 kn hk => ?_⟩
  have hg := Y17 (n := n) (g := g) k (n - 1) (by rw [e1]; exact hk) (by rw [e1]; exact h1)
  have hd : Nat.gcd k (n - 1) ∣ J7e fs := by rw [hf]; exact Nat.gcd_dvd_right _ _
  have hl := Nat.le_of_dvd k0 (Nat.gcd_dvd_left k (n - 1))
  rcases Q43 fs hp _ hd with h | ⟨q, D, h⟩
  · omega
  obtain ⟨c, hc⟩ := h
  have := J59 hg c
  rw [← hc, hf, e1] at this
  exact hq q D this
theorem Q0e : ∀ (n : Nat) (f : Nat → Nat), (∀ i, i < n → f i < n) → (∀ i j, i < n → j < n → f i = f j → i = j) → ∀ y, y < n → ∃ i, i < n ∧ f i = y
  | 0, _, _, _, y, hy => absurd hy (Nat.not_lt_zero y)
  | n + 1, f, hf, hi, y, hy => by
    have hn := hf n (Nat.lt_succ_self n)
    have ih := Q0e n (fun i => if f i = n then f n else f i)
      (fun i hin => by
        have h1 := hf i (by omega)
        show (if f i = n then f n else f i) < n
        split
        · rename_i h
          have : f n ≠ n := fun h2 => by have := hi i n (by omega) (by omega) (h.trans h2.symm); omega
          omega
        · omega)
      (fun i j hin D h => by
        have h : (if f i = n then f n else f i) = (if f j = n then f n else f j) := h
        split at h <;> split at h
        · rename_i a b; exact hi i j (by omega) (by omega) (a.trans b.symm)
        · have := hi n j (by omega) (by omega) h; omega
        · have := hi i n (by omega) (by omega) h; omega
        · exact hi i j (by omega) (by omega) h)
    by_cases h1 : y = f n
    · exact ⟨n, Nat.lt_succ_self n, h1.symm⟩
    · by_cases h2 : y = n
      · obtain ⟨i, hin, h⟩ := ih (f n) (by omega)
        have h : (if f i = n then f n else f i) = f n := h
        split at h
        · rename_i a; exact ⟨i, by omega, a.trans h2.symm⟩
        · have := hi i n (by omega) (by omega) h; omega
      · obtain ⟨i, hin, h⟩ := ih y (by omega)
        have h : (if f i = n then f n else f i) = y := h
        split at h
        · exact absurd h.symm h1
        · exact ⟨i, by omega, h⟩
theorem Gen.nz {n g : Nat} (h : Gen n g) (k : Nat) : g ^ k % n ≠ 0 := by
  intro h0
  have h1 : g ^ (k * (n - 1)) % n = 1 := by
    have := J59 (n := n) (g := g) (a := n - 1) (by rw [h.one, Nat.mod_eq_of_lt h.two]) k
    rw [Nat.mul_comm, this, Nat.mod_eq_of_lt h.two]
  have hn := h.two
  have : g ^ (k * (n - 1)) % n = 0 := by
    rw [Nat.pow_mul, Nat.pow_mod, h0, Nat.zero_pow (by omega), Nat.zero_mod]
  omega
theorem Gen.inj {n g : Nat} (h : Gen n g) : ∀ i j, i < n - 1 → j < n - 1 → g ^ i % n = g ^ j % n → i = j := by
  have D : ∀ i j, i < j → j < n - 1 → g ^ i % n ≠ g ^ j % n := by
    intro i j G hj he
    refine h.low (j - i) (by omega) (by omega) ?_
    have e1 : g ^ (n - 1 - i) * g ^ i % n = 1 := by rw [← Nat.pow_add, show n - 1 - i + i = n - 1 by omega]; exact h.one
    have e2 : g ^ (n - 1 - i) * g ^ j % n = 1 := by rw [Nat.mul_mod, ← he, ← Nat.mul_mod]; exact e1
    rw [← Nat.pow_add, show n - 1 - i + j = (n - 1) + (j - i) by omega, Nat.pow_add, Nat.mul_mod, h.one, Nat.one_mul, Nat.mod_mod] at e2
    exact e2
  intro i j hi hj he
  rcases Nat.lt_trichotomy i j with h1 | h1 | h1
  · exact absurd he (D i j h1 hj)
  · exact h1
  exact absurd he.symm (D j i h1 hi)
theorem Gen.all {n g : Nat} (h : Gen n g) {a : Nat} (h0 : a % n ≠ 0) : ∃ k, k < n - 1 ∧ g ^ k % n = a % n := by
  have hn := h.two
  obtain ⟨k, hk, he⟩ := Q0e (n - 1) (fun i => g ^ i % n - 1)
    (fun i _ => by
      have := Nat.mod_lt (g ^ i) (show n > 0 by omega)
      have := h.nz i
      show g ^ i % n - 1 < n - 1
      omega)
    (fun i j hi hj he => by
      have he : g ^ i % n - 1 = g ^ j % n - 1 := he
      have h1 := h.nz i
      have h2 := h.nz j
      exact h.inj i j hi hj (by omega)) (a % n - 1) (by have := Nat.mod_lt a (show n > 0 by omega); omega)
  have he : g ^ k % n - 1 = a % n - 1 := he
  have := h.nz k
  exact ⟨k, hk, by omega⟩
theorem Gen.fermat {n g : Nat} (h : Gen n g) {a : Nat} (h0 : a % n ≠ 0) : a ^ (n - 1) % n = 1 := by
  obtain ⟨k, _, he⟩ := h.all h0
  rw [Nat.pow_mod, ← he, ← Nat.pow_mod, ← Nat.pow_mul, Nat.mul_comm, J59 (by rw [h.one, Nat.mod_eq_of_lt h.two]), Nat.mod_eq_of_lt h.two]
theorem Gen.prm {n g : Nat} (h : Gen n g) : Prm n := by
  have hn := h.two
  refine ⟨hn, fun d hd => ?_⟩
  by_cases D : d = n
  · exact .inr D
  have hl := Nat.le_of_dvd (by omega) hd
  have d0 : 0 < d := Nat.pos_of_dvd_of_pos hd (by omega)
  have hf := h.fermat (a := d) (by rw [Nat.mod_eq_of_lt (by omega)]; omega)
  obtain ⟨c, hc⟩ := hd
  have G : n - 1 = (n - 2) + 1 := by omega
  have e := Nat.div_add_mod (d ^ (n - 1)) n
  rw [hf] at e
  rw [G, Nat.pow_succ] at e
  have h1 : d ∣ 1 := (Nat.dvd_add_right (show d ∣ n * (d ^ (n - 2) * d / n) from ⟨c * (d ^ (n - 2) * d / n), by rw [← Nat.mul_assoc, ← hc]⟩)).1 ⟨d ^ (n - 2), by rw [e, Nat.mul_comm]⟩
  exact .inl (Nat.dvd_one.1 h1)
def tp (n A e : Nat) : Nat → Nat
  | 0 => 1 % n
  | c + 1 => if e / 2 ^ (255 - c) % 2 = 1 then (tp n A e c * tp n A e c % n) * A % n else tp n A e c * tp n A e c % n
theorem Y4u (n A e : Nat) (he : e < 2 ^ 256) : ∀ c, c ≤ 256 → tp n A e c = A ^ (e / 2 ^ (256 - c)) % n
  | 0, _ => by rw [show 256 - 0 = 256 by decide, Nat.div_eq_of_lt he, Nat.pow_zero]; rfl
  | c + 1, h => by
    have ih := Y4u n A e he c (by omega)
    rw [show 256 - c = (255 - c) + 1 by omega] at ih
    rw [show 256 - (c + 1) = 255 - c by omega]
    have e2 : e / 2 ^ (255 - c + 1) = e / 2 ^ (255 - c) / 2 := by rw [Nat.pow_succ, Nat.div_div_eq_div_mul]
    rw [e2] at ih
    unfold tp
    generalize e / 2 ^ (255 - c) = m at *
    rw [ih, ← Nat.mul_mod, ← Nat.pow_add]
    have hm := Nat.div_add_mod m 2
    split
    · rename_i h1
      rw [Nat.mod_mul_mod, ← Nat.pow_succ, show (m / 2 + m / 2).succ = m by omega]
    · rw [show m / 2 + m / 2 = m by omega]
theorem Z6r {n A e : Nat} (he : e < 2 ^ 256) : A ^ e % n = tp n A e 256 := by
  rw [Y4u n A e he 256 (Nat.le_refl _), Nat.sub_self, Nat.pow_zero, Nat.div_one]
def Z6s (n g : Nat) (fs : List Nat) : Bool :=
  decide (2 ≤ n) && decide (n < 2 ^ 256) && decide (J7e fs = n - 1) && decide (tp n g (n - 1) 256 = 1) && fs.all (fun q => decide (tp n g ((n - 1) / q) 256 ≠ 1))
theorem J9j {n g : Nat} (fs : List Nat) (hp : ∀ q ∈ fs, Prm q) (h : Z6s n g fs = true) : Gen n g := by
  unfold Z6s at h
  simp only [Bool.and_eq_true, decide_eq_true_eq, List.all_eq_true] at h
  obtain ⟨⟨⟨⟨h1, h2⟩, h3⟩, h4⟩, h5⟩ := h
  refine Y70 fs h1 hp h3 (by rw [Z6r (by omega)]; exact h4) (fun q hq => ?_)
  have hl := Nat.div_le_self (n - 1) q
  rw [Z6r (by omega)]
  exact h5 q hq
def Q95 (n k : Nat) : Bool := decide (2 ≤ n) && decide (n < k * k) && (List.range k).all fun d => decide (d < 2) || decide (n % d ≠ 0) || decide (n ≤ d)
theorem Z38 {n : Nat} (k : Nat) (h : Q95 n k = true) : Prm n := by
  unfold Q95 at h
  simp only [Bool.and_eq_true, decide_eq_true_eq, List.all_eq_true, Bool.or_eq_true, List.mem_range] at h
  obtain ⟨⟨h1, h2⟩, h3⟩ := h
  have D : ∀ d, d ∣ n → d < k → d = 1 ∨ d = n := by
    intro d hd hk
    have h4 := Nat.le_of_dvd (by omega) hd
    have h5 := Nat.pos_of_dvd_of_pos hd (by omega)
    rcases h3 d hk with (h | h) | h
    · omega
    · exact absurd (Nat.mod_eq_zero_of_dvd hd) h
    omega
  refine ⟨h1, fun d hd => ?_⟩
  by_cases hk : d < k
  · exact D d hd hk
  obtain ⟨e, he⟩ := hd
  have e0 : e < k := by
    refine Nat.lt_of_not_le fun G => ?_
    have := Nat.mul_le_mul (show k ≤ d by omega) G
    omega
  rcases D e ⟨d, by rw [he, Nat.mul_comm]⟩ e0 with h | h
  · exact .inr (by rw [he, h, Nat.mul_one])
  subst h
  have : e * d = e * 1 := by rw [Nat.mul_one, Nat.mul_comm]; exact he.symm
  exact .inl (Nat.eq_of_mul_eq_mul_left (by omega) this)
theorem J4l {l : List Nat} (k : Nat) (h : (l.all fun n => Q95 n k) = true) : ∀ q ∈ l, Prm q :=
  fun q hq => Z38 k (List.all_eq_true.1 h q hq)
theorem J46 {l m : List Nat} (h : ∀ q ∈ l, Prm q) (k : ∀ q ∈ m, Prm q) : ∀ q ∈ l ++ m, Prm q :=
  fun q hq => (List.mem_append.1 hq).elim (h q) (k q)
theorem J47 {n : Nat} (h : Prm n) : ∀ q ∈ [n], Prm q := fun q hq => by rw [List.mem_singleton.1 hq]; exact h
section
set_option maxRecDepth 100000
theorem V0c : Prm 1923133 := (J9j (n := 1923133) (g := 2) [2, 2, 3, 43, 3727] (J4l 70 (by decide +kernel)) (by decide +kernel)).prm
theorem V0d : Prm 31757755568855353 := (J9j (n := 31757755568855353) (g := 10) [2, 2, 2, 3, 31, 107, 223, 4153, 430751] (J4l 660 (by decide +kernel)) (by decide +kernel)).prm
theorem V0e : Prm 8574133 := (J9j (n := 8574133) (g := 2) [2, 2, 3, 7, 103, 991] (J4l 40 (by decide +kernel)) (by decide +kernel)).prm
theorem V0f : Prm 1919519569386763 := (J9j (n := 1919519569386763) (g := 2) ([2, 3, 7, 19, 47, 47, 127] ++ [8574133]) (J46 (J4l 40 (by decide +kernel)) (J47 V0e)) (by decide +kernel)).prm
theorem V0g : Prm 2773320623 := (J9j (n := 2773320623) (g := 5) [2, 2437, 569003] (J4l 760 (by decide +kernel)) (by decide +kernel)).prm
theorem V0h : Prm 72106336199 := (J9j (n := 72106336199) (g := 7) ([2, 13] ++ [2773320623]) (J46 (J4l 40 (by decide +kernel)) (J47 V0g)) (by decide +kernel)).prm
theorem V0i : Prm 75445702479781427272750846543864801 := (J9j (n := 75445702479781427272750846543864801) (g := 7) ([2, 2, 2, 2, 2, 3, 3, 5, 5, 75707] ++ ([72106336199] ++ [1919519569386763])) (J46 (J4l 300 (by decide +kernel)) (J46 (J47 V0h) (J47 V0f))) (by decide +kernel)).prm
theorem V0j : Prm 74058212732561358302231226437062788676166966415465897661863160754340907 := (J9j (n := 74058212732561358302231226437062788676166966415465897661863160754340907) (g := 2) ([2, 3, 353, 57467, 132049] ++ ([1923133] ++ ([31757755568855353] ++ [75445702479781427272750846543864801]))) (J46 (J4l 400 (by decide +kernel)) (J46 (J47 V0c) (J46 (J47 V0d) (J47 V0i)))) (by decide +kernel)).prm
theorem Y71 : Gen 57896044618658097711785492504343953926634992332820282019728792003956564819949 2 := J9j ([2, 2, 3, 65147] ++ [74058212732561358302231226437062788676166966415465897661863160754340907]) (J46 (J4l 300 (by decide +kernel)) (J47 V0j)) (by decide +kernel)
end
end

section

abbrev Fp := Fin PP
instance instNeZeroPP : NeZero PP := ⟨by decide +kernel⟩
def fp (A : Nat) : Fp := Fin.ofNat PP A
theorem Y72 (A : Nat) : (fp A).val = A % PP := rfl
theorem fp_eq {A B : Nat} : fp A = fp B ↔ A % PP = B % PP := ⟨fun h => congrArg Fin.val h, fun h => Fin.ext h⟩
theorem J0q (A : Nat) : fp (A % PP) = fp A := fp_eq.2 (Nat.mod_mod _ _)
theorem J1h (A B : Nat) : fp (A * B) = fp A * fp B := Fin.ext (by show A * B % PP = (A % PP) * (B % PP) % PP; rw [← Nat.mul_mod])
theorem J8m (A B : Nat) : fp (A + B) = fp A + fp B := Fin.ext (by show (A + B) % PP = (A % PP + B % PP) % PP; rw [← Nat.add_mod])
theorem Q5m : fp 0 = 0 := rfl
theorem Q00 : fp 1 = 1 := rfl
theorem J4e : 0 < PP := by decide +kernel
theorem Y4v : fp PP = 0 := fp_eq.2 (by rw [Nat.mod_self, Nat.zero_mod])
theorem J7f (A : Nat) : fp (PP - A % PP) = - fp A := by
  have h := J8m (PP - A % PP) (A % PP)
  rw [Nat.sub_add_cancel (Nat.le_of_lt (Nat.mod_lt _ J4e)), Y4v, J0q] at h
  grind
theorem Q5n {A B : Nat} (hA : A < PP) (hB : B < PP) (h : fp A = fp B) : A = B := by
  have := fp_eq.1 h
  rwa [Nat.mod_eq_of_lt hA, Nat.mod_eq_of_lt hB] at this
theorem J40 (x : Fp) : fp x.val = x := Fin.ext (Nat.mod_eq_of_lt x.isLt)
theorem Z6t {A : Nat} (h : fp A ≠ 0) : A % PP ≠ 0 := fun e => h (by rw [← Q5m]; exact fp_eq.2 (by rw [e, Nat.zero_mod]))
theorem genP : Gen PP 2 := Y71
def J3n (x : Fp) : Fp := fp (x.val ^ (PP - 2))
theorem J0k {x : Fp} (h : x ≠ 0) : x * J3n x = 1 := by
  have h0 : x.val % PP ≠ 0 := Z6t (by rw [J40]; exact h)
  have h1 := genP.fermat h0
  rw [← J40 x, show J3n (fp x.val) = fp (x.val ^ (PP - 2)) by rw [J40]; rfl, ← J1h, ← Q00]
  refine fp_eq.2 ?_
  rw [Nat.mul_comm, ← Nat.pow_succ, show (PP - 2).succ = PP - 1 by decide +kernel, h1]
  decide +kernel
theorem J3u {x y : Fp} (h : x * y = 0) : x = 0 ∨ y = 0 := by
  by_cases hx : x = 0
  · exact .inl hx
  have := J0k hx
  exact .inr (by grind)
theorem Z6u {x y : Fp} (h : x * x = y * y) : x = y ∨ x = -y := by
  have h1 : (x - y) * (x + y) = 0 := by grind
  rcases J3u h1 with h2 | h2
  · exact .inl (by grind)
  exact .inr (by grind)
theorem V0k (A n : Nat) : fp (pw A n) = fp (A ^ n) := J0q _
theorem Y73 (u v : Nat) : rtX u v < PP := Nat.mod_lt _ J4e
theorem Y4w (v : Nat) : fp (v3 v) = fp v * fp v * fp v := by unfold v3; simp only [J0q, J1h]
theorem V0l (v : Nat) : fp (v7 v) = fp (v3 v) * fp (v3 v) * fp v := by unfold v7; simp only [J0q, J1h]
theorem Y74 (u v : Nat) : fp (rtW u v) = fp v * (fp (rtX u v) * fp (rtX u v)) := by unfold rtW; simp only [J0q, J1h]
theorem Y4x : fp II * fp II = -1 := by
  rw [← J1h]
  have h : fp (II * II) + fp 1 = 0 := by
    rw [← J8m, ← Y4v]; exact fp_eq.2 (by decide +kernel)
  rw [Q00] at h
  grind
theorem V0m {u v : Nat} (h : rtB u v = true) : fp v * (fp (rtR u v) * fp (rtR u v)) = fp u := by
  unfold rtB at h
  unfold rtR
  have hW := Y74 u v
  by_cases h1 : rtW u v = u % PP
  · rw [if_pos h1, ← hW, h1, J0q]
  rw [if_neg h1]
  rw [decide_eq_false h1, Bool.false_or, decide_eq_true_eq] at h
  rw [if_pos h, J0q, J1h]
  rw [h, J0q, J7f] at hW
  have := Y4x
  grind
theorem Q96 {s : Fp} (h : s * s = 1) : s = 1 ∨ s = -1 := Z6u (by grind)
end
end Go.Proofs.YtejkmhgkkibafaaGreatDoor.S8
