/- edwards: Same, Encode, Decode. Conditions: the cells of the variables hold the curve's numbers. edwards.Times. Conditions: the cells of the variables hold the curve's numbers. sign: number, Spread, Sign. Conditions: the cells of the variables hold their numbers. -/
import Derived.Test.YtejkmhgkkibafaaGreatDoorGc
import Derived.Test.YtejkmhgkkibafaaGreatDoorJ6
import Derived.Test.YtejkmhgkkibafaaGreatDoorJ3
import Derived.Test.YtejkmhgkkibafaaGreatDoorJ9
import Derived.Test.YtejkmhgkkibafaaGreatDoorJ14
import Derived.Test.YtejkmhgkkibafaaGreatDoorS8EdC
import Derived.Test.YtejkmhgkkibafaaGreatDoorJ16
import Derived.Test.YtejkmhgkkibafaaGreatDoorJ10
import Derived.Test.YtejkmhgkkibafaaGreatDoorJ15
set_option linter.unusedSimpArgs false
set_option linter.unusedVariables false
namespace Go.Proofs.YtejkmhgkkibafaaGreatDoor.S8
section
set_option maxHeartbeats 1500000
set_option maxRecDepth 100000
open Go.RowKit
attribute [local irreducible] wpList
variable {kn : Kn}
theorem Z39 {A : Nat} (h : A < PP) : A < 2 ^ 256 := Nat.lt_trans h (by decide)
theorem V2n {X Y Z i x y : Nat} {a : Pr} (r : RD X Y Z a) (ei : i = pw Z (PP - 2)) (ex : x = X * i % PP) (ey : y = Y * i % PP) (ho : x % 2 = 1) : J0 .u8 32 (upd (Q5 y) 31 (bits .or .u8 (Q5 y 31) 128)) = J0 .u8 32 (Q5 (enc a)) := by
  obtain ⟨h1, h2⟩ := Z8n r ei ex ey
  rw [V2o (Nat.lt_trans (ey ▸ J4j _) Z18)]
  unfold enc
  rw [← h1, ← h2, ho]
theorem V2p {X Y Z i x y : Nat} {a : Pr} (r : RD X Y Z a) (ei : i = pw Z (PP - 2)) (ex : x = X * i % PP) (ey : y = Y * i % PP) (ho : ¬ x % 2 = 1) : J0 .u8 32 (Q5 y) = J0 .u8 32 (Q5 (enc a)) := by
  obtain ⟨h1, h2⟩ := Z8n r ei ex ey
  have : x % 2 = 0 := by omega
  unfold enc
  rw [← h1, ← h2, this, Nat.mul_zero, Nat.add_zero]

theorem Y8g {X1 Y1 Z1 T1 : Nat} {p1 : Pr} (h1 : RW X1 Y1 Z1 T1 p1) :
  ∀ w, GE kn w → Calls Tryz.prog 92 #[.agg (p4 X1 Y1 Z1 T1)] w fun e w' => Ret (.agg (J0 .u8 32 (Q5 (enc p1)))) w w' e := by
 obtain ⟨x1, y2, z3, t4, r5, c6⟩ := J7h (kn := kn) h1
 have c_N7 := Y88 z3 (Z8 r5.z)
 obtain ⟨N7, hN7⟩ := exn (pw z3 (PP - 2))
 rw [← hN7] at c_N7
 have lN7 := bpp hN7
 have bN7 := Z8 lN7
 have HN7 := Lib.hid hN7
 clear hN7
 have c_N8 := Y9 y2 N7 (Z8 r5.y) bN7
 obtain ⟨N8, hN8⟩ := exn (y2 * N7 % PP)
 rw [← hN8] at c_N8
 have lN8 := bpp hN8
 have bN8 := Z8 lN8
 have HN8 := Lib.hid hN8
 clear hN8
 have cb9 := Q4f N8 bN8
 rw [Nat.mod_eq_of_lt lN8] at cb9
 have c_N10 := Y9 x1 N7 (Z8 r5.x) bN7
 obtain ⟨N10, hN10⟩ := exn (x1 * N7 % PP)
 rw [← hN10] at c_N10
 have lN10 := bpp hN10
 have bN10 := Z8 lN10
 have HN10 := Lib.hid hN10
 clear hN10
 have cd11 := Z15 N10 bN10
 rw [Nat.mod_eq_of_lt lN10] at cd11
 intro w hG
 have off0 : Off [] w w := Off.refl _ _
 go_enter Tryz.func92, Tryz.ntmps92
 go_upto_region 0 with fail
 refine wp_region_lit ?_
 refine Ln ?_ (z := p4 X1 Y1 Z1 T1) (t := 157)
 intro J1m W1 J8c hO h_
 have Q1d := fbn off0 J8c
 replace off0 := off0.o hO
 have k_t1 := h_
 clear hO h_ J8c
 refine Ln ?_ (z := J0 .u8 32 (Q5 0)) (t := 23)
 intro J5o W2 J0l hO h_
 have nq_t1_t2 := bn k_t1 J0l
 have J0r := fbn off0 J0l
 replace k_t1 := k_t1.o hO
 replace off0 := off0.o hO
 have k_t2 := h_
 clear hO h_ J0l
 refine J3 ?_
 go_upto_region 1 with fail
 refine wp_region_lit ?_
 refine L0 ?_ k_t1
 refine Lr ?_ (c6 W2 (Q0 hG off0.ext))
 intro W3 hO
 replace k_t1 := k_t1.o hO
 replace k_t2 := k_t2.o hO
 replace off0 := off0.o hO
 clear hO
 refine Lp ?_ k_t1 (cells := p4 x1 y2 z3 t4)
 intro W4 hO h_
 replace k_t1 : Blk W4 J1m (p4 x1 y2 z3 t4) 157 := h_
 clear h_
 replace k_t2 := k_t2.p hO nq_t1_t2.symm
 replace off0 := off0.p hO Q1d
 clear hO
 refine J3 ?_
 go_upto_region 2 with fail
 refine wp_region_lit ?_
 refine Lv ?_
 refine J29 (vs := (c4 z3).toList) (by rfl) rfl rfl k_t1 (Q20 Q7r) (by kernel_rfl) (by kernel_rfl) ?_
 (try simp only [Act.put, mA, mB, mC])
 refine Lr ?_ (c_N7 W4 (Q0 hG off0.ext).1)
 intro W5 hO
 replace k_t1 := k_t1.o hO
 replace k_t2 := k_t2.o hO
 replace off0 := off0.o hO
 clear hO
 refine LnP ?_ (z := c4 0) (t := 155) (cells := c4 N7)
 intro V82 W7 J20 hO h_
 have nq_t2_t3 := bn k_t2 J20
 replace k_t1 := k_t1.o hO
 replace k_t2 := k_t2.o hO
 replace off0 := off0.o hO
 have k_t3 := h_
 clear hO h_ J20
 refine J3 ?_
 go_upto_region 3 with fail
 refine wp_region_lit ?_
 refine Lv ?_
 refine J29 (vs := (c4 y2).toList) (by rfl) rfl rfl k_t1 (Q20 Q7s) (by kernel_rfl) (by kernel_rfl) ?_
 (try simp only [Act.put, mA, mB, mC])
 refine L0 ?_ k_t3
 refine Lr ?_ (c_N8 W7 (Q0 hG off0.ext).1)
 intro W8 hO
 replace k_t1 := k_t1.o hO
 replace k_t2 := k_t2.o hO
 replace k_t3 := k_t3.o hO
 replace off0 := off0.o hO
 clear hO
 refine Lr ?_ (cb9 W8 (Q0 hG off0.ext).1)
 intro W9 hO
 replace k_t1 := k_t1.o hO
 replace k_t2 := k_t2.o hO
 replace k_t3 := k_t3.o hO
 replace off0 := off0.o hO
 clear hO
 refine LnA ?_ (z := J0 .u8 32 (Q5 0)) (t := 23) (k := .u8) (n := 32) (f := Q5 N8)
 intro Z8o W11 J2l hO h_
 have Q4g := bn k_t1 J2l
 have nq_t2_t4 := bn k_t2 J2l
 have nq_t3_t4 := bn k_t3 J2l
 have J4r := fbn off0 J2l
 replace k_t1 := k_t1.o hO
 replace k_t2 := k_t2.o hO
 replace k_t3 := k_t3.o hO
 replace off0 := off0.o hO
 have k_t4 := h_
 clear hO h_ J2l
 refine J3 ?_
 by_cases ho : N10 % 2 = 1
 ·
  have _f := ho
  go_upto_region 4 with fail
  refine wp_region_lit ?_
  refine Lv ?_
  refine J29 (vs := (c4 x1).toList) (by rfl) rfl rfl k_t1 (Q20 Q5n) (by kernel_rfl) (by kernel_rfl) ?_
  (try simp only [Act.put, mA, mB, mC])
  refine L0 ?_ k_t3
  refine Lr ?_ (c_N10 W11 (Q0 hG off0.ext).1)
  intro W12 hO
  replace k_t1 := k_t1.o hO
  replace k_t2 := k_t2.o hO
  replace k_t3 := k_t3.o hO
  replace k_t4 := k_t4.o hO
  replace off0 := off0.o hO
  clear hO
  rw [decide_eq_true ho] at cd11
  refine Lr ?_ (cd11 W12 (Q0 hG off0.ext).1)
  intro W13 hO
  replace k_t1 := k_t1.o hO
  replace k_t2 := k_t2.o hO
  replace k_t3 := k_t3.o hO
  replace k_t4 := k_t4.o hO
  replace off0 := off0.o hO
  clear hO
  refine J3 ?_
  go_upto_region 5 with fail
  refine wp_region_lit ?_
  refine Lw ?_ (v := .pointer (some ⟨Z8o, 0 + 31, none⟩)) (hv := J5 (m := 32) (by decide) (by decide) Tryz.underlying23 (by kernel_rfl) rfl rfl rfl)
  refine Lg ?_ k_t4 (v := .int .u8 ((Q5 N8) 31)) (hj := by rw [Nat.zero_add]; exact J6 _ _ _ _ (by decide))
  refine Lw ?_ (v := .int .u8 (bits .or .u8 (Q5 N8 31) 128)) (hv := by exact Y31 rfl rfl rfl rfl)
  refine Lw ?_ (v := .pointer (some ⟨Z8o, 0 + 31, none⟩)) (hv := J5 (m := 32) (by decide) (by decide) Tryz.underlying23 (by kernel_rfl) rfl rfl rfl)
  refine J28 (v := .int .u8 (bits .or .u8 (Q5 N8 31) 128)) ⟨rfl, rfl⟩ (by rfl) rfl rfl rfl k_t4 (by rw [J2, Nat.zero_add]; decide) (by kernel_rfl) ?_
  (try simp only [Act.put, mA, mB, mC])
  intro W14 hO h_
  rw [Nat.zero_add, K0] at h_
  replace k_t4 : Blk W14 Z8o (J0 .u8 32 (upd (Q5 N8) 31 (bits .or .u8 (Q5 N8 31) 128))) 23 := h_
  clear h_
  replace k_t1 := k_t1.p hO Q4g
  replace k_t2 := k_t2.p hO nq_t2_t4
  replace k_t3 := k_t3.p hO nq_t3_t4
  replace off0 := off0.p hO J4r
  clear hO
  rw [V2n r5.rr HN7.out HN10.out HN8.out ho] at k_t4
  refine J3 ?_
  go_upto_region 6 with fail
  refine wp_region_lit ?_
  refine L0A ?_ k_t4
  refine LpA ?_ k_t2 (k := .u8) (n := 32) (f := Q5 (enc p1))
  intro W15 hO h_
  replace k_t2 : Blk W15 J5o (J0 .u8 32 (Q5 (enc p1))) 23 := h_
  clear h_
  replace k_t1 := k_t1.p hO nq_t1_t2
  replace k_t3 := k_t3.p hO nq_t2_t3.symm
  replace k_t4 := k_t4.p hO nq_t2_t4.symm
  replace off0 := off0.p hO J0r
  clear hO
  refine J3 ?_
  go_wp2
  exact bodyPost_ret (Y0 rfl rfl k_t2 (by kernel_rfl) (by rw [J2]; kernel_rfl)) rfl ⟨rfl, off0.ext⟩
 have _f := ho
 go_upto_region 4 with fail
 refine wp_region_lit ?_
 refine Lv ?_
 refine J29 (vs := (c4 x1).toList) (by rfl) rfl rfl k_t1 (Q20 Q5n) (by kernel_rfl) (by kernel_rfl) ?_
 (try simp only [Act.put, mA, mB, mC])
 refine L0 ?_ k_t3
 refine Lr ?_ (c_N10 W11 (Q0 hG off0.ext).1)
 intro W12 hO
 replace k_t2 := k_t2.o hO
 replace k_t4 := k_t4.o hO
 replace off0 := off0.o hO
 clear hO
 rw [decide_eq_false ho] at cd11
 refine Lr ?_ (cd11 W12 (Q0 hG off0.ext).1)
 intro W13 hO
 replace k_t2 := k_t2.o hO
 replace k_t4 := k_t4.o hO
 replace off0 := off0.o hO
 clear hO
 refine J3 ?_
 rw [V2p r5.rr HN7.out HN10.out HN8.out ho] at k_t4
 go_upto_region 6 with fail
 refine wp_region_lit ?_
 refine L0A ?_ k_t4
 refine LpA ?_ k_t2 (k := .u8) (n := 32) (f := Q5 (enc p1))
 intro W14 hO h_
 replace k_t2 : Blk W14 J5o (J0 .u8 32 (Q5 (enc p1))) 23 := h_
 clear h_
 replace off0 := off0.p hO J0r
 clear hO
 refine J3 ?_
 go_wp2
 exact bodyPost_ret (Y0 rfl rfl k_t2 (by kernel_rfl) (by rw [J2]; kernel_rfl)) rfl ⟨rfl, off0.ext⟩
end

section
set_option maxHeartbeats 1500000
set_option maxRecDepth 100000
open Go.RowKit
attribute [local irreducible] wpList
variable {kn : Kn}
theorem Z8q {p : Int} {x : Nat} (h : p = (x : Int)) (hx : x < 256) : bits .and .u8 p 1 = ((x % 2 : Nat) : Int) := by
  subst h
  refine (u8_and_nat x 1 hx (by decide)).trans ?_
  rw [Nat.and_one_is_mod]
theorem Z3e (n q r : Nat) (hr : r < 8) : bits .and .u8 (Q5 n q / 2 ^ r) 1 = ((n / 2 ^ (8 * q + r) % 2 : Nat) : Int) := by
  have h0 : n / 2 ^ (8 * q) % 256 / 2 ^ r % 2 = n / 2 ^ (8 * q + r) % 2 := by
    rw [Nat.pow_add, ← Nat.div_div_eq_div_mul]
    generalize n / 2 ^ (8 * q) = x
    obtain ⟨d, hd⟩ : ∃ d, 8 = r + (1 + d) := ⟨7 - r, by omega⟩
    rw [show 256 = 2 ^ 8 by decide, hd, Nat.pow_add 2 r, Nat.mod_mul_right_div_self, Nat.pow_add 2 1 d, Nat.pow_one, Nat.mod_mul_right_mod]
  have e : Q5 n q / 2 ^ r = ((n / 2 ^ (8 * q) % 256 / 2 ^ r : Nat) : Int) := by
    unfold Q5
    rw [Int.natCast_ediv, Int.natCast_pow]; rfl
  rw [Z8q e (Nat.lt_of_le_of_lt (Nat.div_le_self _ _) (Nat.mod_lt _ (by decide))), h0]
theorem Y32 {a : Pr} (ha : OnC a) {n i : Nat} (h : n / 2 ^ i % 2 = 0) : pm a (n / 2 ^ i) = J1l (pm a (n / 2 ^ (i + 1))) (pm a (n / 2 ^ (i + 1))) := by
  rw [← Q4k ha]
  congr 1
  rw [Nat.pow_succ, ← Nat.div_div_eq_div_mul]; omega
theorem Z8r {a : Pr} (ha : OnC a) {n i : Nat} (h : n / 2 ^ i % 2 = 1) : pm a (n / 2 ^ i) = J1l (J1l (pm a (n / 2 ^ (i + 1))) (pm a (n / 2 ^ (i + 1)))) a := by
  rw [← Y8j ha]
  congr 1
  rw [Nat.pow_succ, ← Nat.div_div_eq_div_mul]; omega
abbrev T4 := Nat × Nat × Nat × Nat
def pc (s : T4) : Array Value := p4 s.1 s.2.1 s.2.2.1 s.2.2.2
def RT (s : T4) (a : Pr) : Prop := RN s.1 s.2.1 s.2.2.1 s.2.2.2 a
structure TStep (kn : Kn) (P : T4) (n j : Nat) (s g s' : T4) : Prop where
  tw : ∀ w, GE kn w → Calls Tryz.prog 132 #[.agg (pc s)] w fun e w' => Ret (.agg (pc g)) w w' e
  ad : n / 2 ^ j % 2 = 1 → ∀ w, GE kn w → Calls Tryz.prog 107 #[.agg (pc g), .agg (pc P)] w fun e w' => Ret (.agg (pc s')) w w' e
  no : ¬ n / 2 ^ j % 2 = 1 → s' = g
theorem V2r (hd : kn.d) {P s : T4} {a : Pr} {n j : Nat} (hP : RT P a) (hs : RT s (pm a (n / 2 ^ (j + 1)))) : ∃ g s', TStep kn P n j s g s' ∧ RT s' (pm a (n / 2 ^ j)) := by
  obtain ⟨x, y, z, t, r, c⟩ := Z8e (kn := kn) hs
  by_cases h : n / 2 ^ j % 2 = 1
  · obtain ⟨x', y', z', t', r', c'⟩ := Z8h hd r.rw hP.rw
    exact ⟨(x, y, z, t), (x', y', z', t'), ⟨c, fun _ => c', fun h0 => absurd h h0⟩, by rw [Z8r hP.on h]; exact r'⟩
  exact ⟨(x, y, z, t), (x, y, z, t), ⟨c, fun h0 => absurd h0 h, fun _ => rfl⟩, by rw [Y32 hP.on (by omega)]; exact r⟩
theorem V2s (hd : kn.d) {P s0 : T4} {a : Pr} {n : Nat} (hP : RT P a) (h0 : RT s0 (pm a (n / 2 ^ 256))) : ∀ m, m ≤ 256 → ∃ f g : Nat → T4, f 256 = s0 ∧ (∀ j, 256 - m ≤ j → j ≤ 256 → RT (f j) (pm a (n / 2 ^ j))) ∧ ∀ j, 256 - m ≤ j → j < 256 → TStep kn P n j (f (j + 1)) (g j) (f j)
  | 0, _ => ⟨fun _ => s0, fun _ => s0, rfl, fun j h1 h2 => by rw [show j = 256 by omega]; exact h0, fun j h1 h2 => by omega⟩
  | m + 1, hm => by
    obtain ⟨f, g, e0, e1, e2⟩ := V2s hd hP h0 m (by omega)
    obtain ⟨k, hk⟩ : ∃ k, k = 255 - m := ⟨_, rfl⟩
    obtain ⟨x, s', st, hr⟩ := V2r hd (j := k) hP (e1 (k + 1) (by omega) (by omega))
    refine ⟨fun j => if j = k then s' else f j, fun j => if j = k then x else g j, ?_, fun j h1 h2 => ?_, fun j h1 h2 => ?_⟩
    · show (if 256 = k then s' else f 256) = s0
      rw [if_neg (by omega)]; exact e0
    · show RT (if j = k then s' else f j) _
      by_cases h : j = k
      · rw [if_pos h, h]; exact hr
      · rw [if_neg h]; exact e1 j (by omega) h2
    · show TStep kn P n j (if j + 1 = k then s' else f (j + 1)) (if j = k then x else g j) (if j = k then s' else f j)
      rw [if_neg (by omega)]
      by_cases h : j = k
      · rw [if_pos h, if_pos h, h]; exact st
      · rw [if_neg h, if_neg h]; exact e2 j (by omega) h2

theorem Q1e (hd : kn.d) {X1 Y1 Z1 T1 : Nat} {p1 : Pr} (h1 : RW X1 Y1 Z1 T1 p1) {N : Nat} (hN : N < 2 ^ 256) :
  ∃ X Y Z T, RN X Y Z T (pm p1 N) ∧ ∀ w, GE kn w → Calls Tryz.prog 90 #[.agg (p4 X1 Y1 Z1 T1), .agg (J0 .u8 32 (Q5 N))] w fun e w' => Ret (.agg (p4 X Y Z T)) w w' e := by
 obtain ⟨x1, y2, z3, t4, r5, c6⟩ := J7h (kn := kn) Y33
 obtain ⟨x7, y8, z9, t10, r11, c12⟩ := J7h (kn := kn) h1
 obtain ⟨f, gg, hf0, hfr, hfs⟩ := V2s hd (P := (x7, y8, z9, t10)) (s0 := (x1, y2, z3, t4)) (n := N) r11 (by rw [Nat.div_eq_of_lt hN]; exact r5) 256 (Nat.le_refl _)
 have Hf0 := Lib.hid hf0
 clear hf0
 refine ⟨(f 0).1, (f 0).2.1, (f 0).2.2.1, (f 0).2.2.2, (by have := hfr 0 (Nat.zero_le _) (Nat.zero_le _); rw [Nat.pow_zero, Nat.div_one] at this; exact this), fun w hG => ?_⟩
 have off0 : Off [] w w := Off.refl _ _
 go_enter Tryz.func90, Tryz.ntmps90
 go_upto_region 0 with fail
 refine wp_region_lit ?_
 refine Ln ?_ (z := p4 X1 Y1 Z1 T1) (t := 157)
 intro J0a W1 J0l hO h_
 have J0r := fbn off0 J0l
 replace off0 := off0.o hO
 have k_t2 := h_
 clear hO h_ J0l
 refine Ln ?_ (z := J0 .u8 32 (Q5 N)) (t := 23)
 intro J1z W2 J20 hO h_
 have nq_t2_t3 := bn k_t2 J20
 replace k_t2 := k_t2.o hO
 replace off0 := off0.o hO
 have k_t3 := h_
 clear hO h_ J20
 refine Ln ?_ (z := p4 0 0 0 0) (t := 157)
 intro Q7q W3 J2l hO h_
 have nq_t2_t4 := bn k_t2 J2l
 have nq_t3_t4 := bn k_t3 J2l
 have J4r := fbn off0 J2l
 replace k_t2 := k_t2.o hO
 replace k_t3 := k_t3.o hO
 replace off0 := off0.o hO
 have k_t4 := h_
 clear hO h_ J2l
 refine J3 ?_
 go_upto_region 1 with fail
 refine wp_region_lit ?_
 refine Lw ?_ (v := .agg (p4 0 0 0 0)) (hv := by kernel_rfl)
 refine Lr ?_ (c6 W3 (Q0 hG off0.ext))
 intro W4 hO
 replace k_t2 := k_t2.o hO
 replace k_t3 := k_t3.o hO
 replace k_t4 := k_t4.o hO
 replace off0 := off0.o hO
 clear hO
 refine LnP ?_ (z := p4 0 0 0 0) (t := 157) (cells := p4 x1 y2 z3 t4)
 intro Y8k W6 J1k hO h_
 have nq_t2_t5 := bn k_t2 J1k
 have J7i := bn k_t3 J1k
 have nq_t4_t5 := bn k_t4 J1k
 have Q66 := fbn off0 J1k
 replace k_t2 := k_t2.o hO
 replace k_t3 := k_t3.o hO
 replace k_t4 := k_t4.o hO
 replace off0 := off0.o hO
 have k_t5 := h_
 clear hO h_ J1k
 refine J3 ?_
 go_upto_region 2 with fail
 refine wp_region_lit ?_
 refine L0 ?_ k_t2
 refine Lr ?_ (c12 W6 (Q0 hG off0.ext))
 intro W7 hO
 replace k_t2 := k_t2.o hO
 replace k_t3 := k_t3.o hO
 replace k_t4 := k_t4.o hO
 replace k_t5 := k_t5.o hO
 replace off0 := off0.o hO
 clear hO
 refine Lp ?_ k_t2 (cells := p4 x7 y8 z9 t10)
 intro W8 hO h_
 replace k_t2 : Blk W8 J0a (p4 x7 y8 z9 t10) 157 := h_
 clear h_
 replace k_t3 := k_t3.p hO nq_t2_t3.symm
 replace k_t4 := k_t4.p hO nq_t2_t4.symm
 replace k_t5 := k_t5.p hO nq_t2_t5.symm
 replace off0 := off0.p hO J0r
 clear hO
 refine J3 ?_
 go_wp2_with fail
 go_loopw [6] (fun si wr => ∃ (j : Nat), (j ≤ 256) ∧ (si = .int .i64 ((j : Int) - 1)) ∧ Off [] w wr ∧ Blk wr J0a (p4 x7 y8 z9 t10) 157 ∧ Blk wr J1z (J0 .u8 32 (Q5 N)) 23 ∧ Blk wr Q7q (p4 0 0 0 0) 157 ∧ Blk wr Y8k (pc (f j)) 157)
  (fun si _ => (intOf si + 1).toNat)
 case atStart => exact ⟨256, Nat.le_refl _, rfl, off0, k_t2, k_t3, k_t4, (by rw [Hf0.out]; exact k_t5)⟩
 case round =>
  obtain ⟨j, hj, rfl, off0, k_t2, k_t3, k_t4, k_t5⟩ := hrel
  obtain ⟨W9, eW_⟩ := J67 off0
  subst eW_
  by_cases hz : j = 0
  ·
   have _f := hz
   subst hz
   go_upto_region 4 with fail
   refine wp_region_lit ?_
   refine Lv ?_
   refine Lw ?_ (v := .bool false)
   refine J3 ?_
   go_upto_region 9 with fail
   refine wp_region_lit ?_
   refine L0 ?_ k_t5
   refine Lp ?_ k_t4 (cells := pc (f 0))
   intro W10 hO h_
   replace k_t4 : Blk W10 Q7q (pc (f 0)) 157 := h_
   clear h_
   replace k_t2 := k_t2.p hO nq_t2_t4
   replace k_t3 := k_t3.p hO nq_t3_t4
   replace k_t5 := k_t5.p hO nq_t4_t5.symm
   replace off0 := off0.p hO J4r
   clear hO
   refine J3 ?_
   go_wp2
   exact bodyPost_ret (Y0 rfl rfl k_t4 (by kernel_rfl) (by kernel_rfl)) rfl ⟨rfl, off0.ext⟩
  have _f := hz
  obtain ⟨i, rfl⟩ : ∃ i, j = i + 1 := ⟨j - 1, by omega⟩
  have hst := hfs i (by omega) (by omega)
  rw [show ((i + 1 : Nat) : Int) - 1 = (i : Int) by omega]
  go_upto_region 4 with fail
  refine wp_region_lit ?_
  refine Lv ?_
  refine Lw ?_ (v := .bool true)
  refine J3 ?_
  go_upto_region 6 with fail
  refine wp_region_lit ?_
  refine L0 ?_ k_t5
  refine Lr ?_ (hst.tw W9 (Q0 hG off0.ext))
  intro W10 hO
  replace k_t2 := k_t2.o hO
  replace k_t3 := k_t3.o hO
  replace k_t4 := k_t4.o hO
  replace k_t5 := k_t5.o hO
  replace off0 := off0.o hO
  clear hO
  refine Lp ?_ k_t5 (cells := pc (gg i))
  intro W11 hO h_
  replace k_t5 : Blk W11 Y8k (pc (gg i)) 157 := h_
  clear h_
  replace k_t2 := k_t2.p hO nq_t2_t5
  replace k_t3 := k_t3.p hO J7i
  replace k_t4 := k_t4.p hO nq_t4_t5
  replace off0 := off0.p hO Q66
  clear hO
  refine J3 ?_
  by_cases hbit : N / 2 ^ i % 2 = 1
  ·
   have _f := hbit
   have hand : bits .and .u8 (Q5 N (i / 8) / 2 ^ (i % 8)) 1 = 1 := by rw [Z3e _ _ _ (by omega), show 8 * (i / 8) + i % 8 = i by omega, hbit]; rfl
   clear _f
   have Hbit := Lib.hid hbit
   clear hbit
   go_upto_region 7 with fail
   refine wp_region_lit ?_
   refine Lv ?_
   refine Lw ?_ (v := .int .i64 ((i / 8 : Nat) : Int)) (hv := by exact Q8z (m := 8) (by decide) (by omega) rfl rfl rfl)
   refine Lw ?_ (v := .pointer (some ⟨J1z, 0 + (i / 8), none⟩)) (hv := J5 (m := 32) (by decide) (by omega) Tryz.underlying23 (by kernel_rfl) rfl rfl rfl)
   refine Lg ?_ k_t3 (v := .int .u8 ((Q5 N) (i / 8))) (hj := by rw [Nat.zero_add]; exact J6 _ _ _ _ (by omega))
   refine Lv ?_
   refine Lw ?_ (v := .int .i64 ((i % 8 : Nat) : Int)) (hv := by exact Q90 (m := 8) (by decide) (by omega) rfl rfl rfl)
   refine Lw ?_ (v := .int .u8 (Q5 N (i / 8) / 2 ^ (i % 8))) (hv := by exact Q91 (by omega) rfl rfl rfl)
   refine Lw ?_ (v := .int .u8 1) (hv := by exact J7j hand rfl rfl rfl)
   refine Lw ?_ (v := .bool true)
   refine J3 ?_
   go_upto_region 8 with fail
   refine wp_region_lit ?_
   refine L0 ?_ k_t5
   refine L0 ?_ k_t2
   refine Lr ?_ (hst.ad Hbit.out W11 (Q0 hG off0.ext))
   intro W12 hO
   replace k_t2 := k_t2.o hO
   replace k_t3 := k_t3.o hO
   replace k_t4 := k_t4.o hO
   replace k_t5 := k_t5.o hO
   replace off0 := off0.o hO
   clear hO
   refine Lp ?_ k_t5 (cells := pc (f i))
   intro W13 hO h_
   replace k_t5 : Blk W13 Y8k (pc (f i)) 157 := h_
   clear h_
   replace k_t2 := k_t2.p hO nq_t2_t5
   replace k_t3 := k_t3.p hO J7i
   replace k_t4 := k_t4.p hO nq_t4_t5
   replace off0 := off0.p hO Q66
   clear hO
   refine J3 ?_
   go_wp2
   go_roundw
   case rel => exact ⟨i, by omega, by go_num, off0, k_t2, k_t3, k_t4, k_t5⟩
   case measure => first | (simp [intOf]; done) | (simp [intOf]; omega)
  have _f := hbit
  have hand : bits .and .u8 (Q5 N (i / 8) / 2 ^ (i % 8)) 1 = 0 := by rw [Z3e _ _ _ (by omega), show 8 * (i / 8) + i % 8 = i by omega, show N / 2 ^ i % 2 = 0 by omega]; rfl
  clear _f
  have Hbit := Lib.hid hbit
  clear hbit
  go_upto_region 7 with fail
  refine wp_region_lit ?_
  refine Lv ?_
  refine Lw ?_ (v := .int .i64 ((i / 8 : Nat) : Int)) (hv := by exact Q8z (m := 8) (by decide) (by omega) rfl rfl rfl)
  refine Lw ?_ (v := .pointer (some ⟨J1z, 0 + (i / 8), none⟩)) (hv := J5 (m := 32) (by decide) (by omega) Tryz.underlying23 (by kernel_rfl) rfl rfl rfl)
  refine Lg ?_ k_t3 (v := .int .u8 ((Q5 N) (i / 8))) (hj := by rw [Nat.zero_add]; exact J6 _ _ _ _ (by omega))
  refine Lv ?_
  refine Lw ?_ (v := .int .i64 ((i % 8 : Nat) : Int)) (hv := by exact Q90 (m := 8) (by decide) (by omega) rfl rfl rfl)
  refine Lw ?_ (v := .int .u8 (Q5 N (i / 8) / 2 ^ (i % 8))) (hv := by exact Q91 (by omega) rfl rfl rfl)
  refine Lw ?_ (v := .int .u8 0) (hv := by exact J7j hand rfl rfl rfl)
  refine Lw ?_ (v := .bool false)
  refine J3 ?_
  go_wp2
  go_roundw
  case rel => exact ⟨i, by omega, by go_num, off0, k_t2, k_t3, k_t4, (by rw [hst.no Hbit.out]; exact k_t5)⟩
  case measure => first | (simp [intOf]; done) | (simp [intOf]; omega)
end

section
set_option maxHeartbeats 1000000
set_option maxRecDepth 100000
open Go.RowKit
attribute [local irreducible] wpList
variable {kn : Kn}
open Sc (LL J4l)
def GA (kn : Kn) (w : World) : Prop := GE kn w ∧ GS w ∧ Sc.GL w ∧ (kn.r → GR w)
theorem Y93 {w W : World} (h : Sc.GL w) (k : Ext w W) : Sc.GL W := ⟨K5 h.1 k, K5 h.2.1 k, K5 h.2.2.1 k, K5 h.2.2.2.1 k, Nat.lt_of_lt_of_le h.2.2.2.2 k.size⟩
theorem GA_ext {w W : World} (h : GA kn w) (k : Ext w W) : GA kn W := ⟨Q0 h.1 k, Q76 h.2.1 k, Y93 h.2.2.1 k, fun x => Y90 (h.2.2.2 x) k⟩
def s3 (N D P : Nat) : Array Value := J0 .u8 32 (Q5 N) ++ J0 .u8 32 (Q5 D) ++ J0 .u8 32 (Q5 P)
section
variable {N D P : Nat}
theorem V3h : ∀ i v, (J0 .u8 32 (Q5 N))[i]? = some v → (s3 N D P)[0 + i]? = some v := fun i v h => by rw [Nat.zero_add]; exact J5t (J5t h)
theorem V5p : ∀ i v, (J0 .u8 32 (Q5 D))[i]? = some v → (s3 N D P)[32 + i]? = some v := fun i v h => J5t (J8z (J2 _ _ _) h)
theorem Y94 : ∀ i v, (J0 .u8 32 (Q5 P))[i]? = some v → (s3 N D P)[64 + i]? = some v := fun i v h => J8z (by rw [Array.size_append, J2, J2]) h
theorem J2m : (s3 N D P).size = 96 := by unfold s3; rw [Array.size_append, Array.size_append, J2, J2, J2]
theorem Z1h : (s3 N D P).all (·.oneCell') = true := by unfold s3; rw [Array.all_append, Array.all_append, K3, K3, K3]; rfl
end
theorem Z9b (a : List Value) : ∀ (vs b : List Value), b.length = vs.length → spl (a ++ b).toArray a.length vs = (a ++ vs).toArray
  | [], b, h => by rw [List.eq_nil_of_length_eq_zero h]; rfl
  | v :: vs, [], h => by simp at h
  | v :: vs, x :: b, h => by
    show spl ((a ++ x :: b).toArray.setIfInBounds a.length v) (a.length + 1) vs = _
    rw [List.setIfInBounds_toArray, List.set_append_right _ _ (Nat.le_refl _), Nat.sub_self, List.set_cons_zero]
    have := Z9b (a ++ [v]) vs b (by simpa using h)
    simpa using this
theorem Y95 (N D P Q : Nat) : spl (s3 N D Q) 64 (J0 .u8 32 (Q5 P)).toList = s3 N D P := by
  have h := Z9b (Q2w .u8 32 (Q5 N) ++ Q2w .u8 32 (Q5 D)) (Q2w .u8 32 (Q5 P)) (Q2w .u8 32 (Q5 Q)) (by rw [J6t, J6t])
  rw [List.length_append, J6t, J6t] at h
  have e : ∀ X, s3 N D X = (Q2w .u8 32 (Q5 N) ++ Q2w .u8 32 (Q5 D) ++ Q2w .u8 32 (Q5 X)).toArray := fun X => by
    unfold s3; apply Array.ext'; simp only [Array.toList_append, J4u]
  rw [e, e, J4u]; exact h
theorem Y96 {P : Program} {ops : Array Oper} {Q : Exit → Act → World → Prop} {w : World} {l : List Oper} {o : Oper} {a a' : Act} {ty t : TypeId} {x y : Operand} {b N D R V : Nat} (h : ∀ W, Off [b] w W → Blk W b (s3 N D V) t → wpList P ops Q l a' W) (hB : Blk w b (s3 N D R) t)
    (hw : Region.wanted o (yielded ops a.tmps) = true := by exact rfl) (ho : o.op = .store ty x y := by exact rfl) (hx : a.eval x = .pointer (some ⟨b, 64, none⟩) := by exact rfl) (hy : a.eval y = .agg (J0 .u8 32 (Q5 V)) := by exact rfl)
    (hi : (P.info? ty).map (·.size) = some 32 := by kernel_rfl) (hp : a.put o.dst undef = a' := by (try simp only [Act.put, mA, mB, mC]); exact rfl) : wpList P ops Q (o :: l) a w := by
  subst hp
  refine Q72 (v := .agg (J0 .u8 32 (Q5 V))) hw ho hx hy hB (by show 64 + (J0 .u8 32 (Q5 V)).size ≤ _; rw [J2, J2m]; decide) (by show _ = some (J0 .u8 32 (Q5 V)).size; rw [J2]; exact hi) (K3 _ _ _) fun W h1 h2 => h W h1 ?_
  have e : spl (s3 N D R) 64 (Value.agg (J0 .u8 32 (Q5 V))).cells.toList = s3 N D V := Y95 N D V R
  rw [e] at h2
  exact h2
theorem Z9c {H : Nat} {F : List UInt8} (hH : H = hs F) (ps : List (List UInt8)) (A : Option Addr) (c : Nat) (hF : ps.flatten = F) (hlen : F.length ≤ 70368744177664) (hpn : ps.length ≤ 9223372036854775000) (w : World) (hps : ∀ i l, ps[i]? = some l → ∃ ad u, A = some ad ∧ w.cell? (ad.add i) = some u ∧ Sl w u l) (hG : GS w) :
    Calls Tryz.prog 125 #[.slice A ps.length c] w fun e w' => Ret (.agg (J0 .u8 64 (Q5 H))) w w' e := by
  rw [hH, ← V3i]; exact V3j ps A c F hF hlen hpn w hps hG
theorem Y64 {X : Nat} {w : World} {b off n c V : Nat} {cs : Array Value} {t : TypeId} (hX : X = V % LL) (hB : Blk w b cs t) (hc : ∀ i v, (J0 .u8 n (Q5 V))[i]? = some v → cs[off + i]? = some v) (hn : n ≤ 700) (hV : V < 2 ^ (8 * n)) (hG : Sc.GL w) :
    Calls Tryz.prog 95 #[.slice (some ⟨b, off, none⟩) n c] w fun e w' => Ret (L4 X) w w' e := by
  have h := Sc.of_c (Q5 V) (J70 V) b off n c w hG hn (fun j hj => by rw [Q6 hB]; exact hc j _ (J6 _ _ _ _ hj)) (Q7 hB)
  rw [J5a, Nat.mod_eq_of_lt hV, ← hX] at h
  exact h
theorem Q1h {V : Nat} (hV : V < LL) (w : World) (hG : Sc.GL w) : Calls Tryz.prog 91 #[L4 V] w fun e w' => Ret (.agg (J0 .u8 32 (Q5 V))) w w' e := by
  have h := Sc.bytes_c V (Nat.lt_trans hV J36) w hG
  rw [Nat.mod_eq_of_lt hV] at h
  exact h
theorem Y97 {X A B : Nat} (hX : X = A * B % LL) (hA : A < Z3) (hB : B < Z3) (w : World) (hG : Sc.GL w) : Calls Tryz.prog 94 #[L4 A, L4 B] w fun e w' => Ret (L4 X) w w' e := hX ▸ Sc.mul_c A B hA hB w hG
theorem Y98 {X A B : Nat} (hX : X = (A + B) % LL) (hA : A < Z3) (hB : B < Z3) (w : World) (hG : Sc.GL w) : Calls Tryz.prog 93 #[L4 A, L4 B] w fun e w' => Ret (L4 X) w w' e := hX ▸ Sc.add_c A B hA hB w hG
theorem Z9d {X V : Nat} (hX : X = clN V) (w : World) : Calls Tryz.prog 126 #[.agg (J0 .u8 32 (Q5 V))] w fun e w' => Ret (.agg (J0 .u8 32 (Q5 X))) w w' e := by
  have h := Sc.clamp_c (Q5 V) (J70 V) w
  rw [Y3l, ← hX] at h
  exact h
theorem Q86 {X X1 Y1 Z1 T1 : Nat} {p1 : Pr} (h1 : RW X1 Y1 Z1 T1 p1) (hX : X = enc p1) (w : World) (hG : GE kn w) : Calls Tryz.prog 92 #[.agg (p4 X1 Y1 Z1 T1)] w fun e w' => Ret (.agg (J0 .u8 32 (Q5 X))) w w' e := hX ▸ Y8g h1 w hG

theorem J6h {X : Nat} {F : List UInt8} (hX : X = hs F % LL) (ps : List (List UInt8)) (A : Option Addr) (c : Nat) (hF : ps.flatten = F) (hlen : F.length ≤ 70368744177664) (hpn : ps.length ≤ 9223372036854775000) (w : World) (hps : ∀ i l, ps[i]? = some l → ∃ ad u, A = some ad ∧ w.cell? (ad.add i) = some u ∧ Sl w u l) (hG : GA kn w) :
  Calls Tryz.prog 88 #[.slice A ps.length c] w fun e w' => Ret (L4 X) w w' e := by
 have HPS := Lib.hid hps
 clear hps
 rw [hX]
 clear hX
 have off0 : Off [] w w := Off.refl _ _
 go_enter Tryz.func88, Tryz.ntmps88
 go_upto_region 0 with fail
 refine wp_region_lit ?_
 refine Ln ?_ (z := c4 0) (t := 153)
 intro J0a W1 J0l hO h_
 have J0r := fbn off0 J0l
 replace off0 := off0.o hO
 have k_t2 := h_
 clear hO h_ J0l
 refine J3 ?_
 go_upto_region 1 with fail
 refine wp_region_lit ?_
 refine Lv ?_
 obtain ⟨U1, hU1⟩ := exn (hs F)
 have HU1 := Lib.hid hU1
 clear hU1
 refine Lr ?_ (Z9c HU1.out ps A c hF hlen hpn W1 (Z7j off0 HPS.out) (GA_ext hG off0.ext).2.1)
 intro W2 hO
 replace k_t2 := k_t2.o hO
 replace off0 := off0.o hO
 clear hO
 refine LnA ?_ (z := J0 .u8 64 (Q5 0)) (t := 45) (k := .u8) (n := 64) (f := Q5 U1)
 intro Z16 W4 J20 hO h_
 replace k_t2 := k_t2.o hO
 replace off0 := off0.o hO
 have k_t3 := h_
 clear hO h_ J20
 refine J3 ?_
 go_upto_region 2 with fail
 refine wp_region_lit ?_
 refine Lw ?_ (v := .slice (some ⟨Z16, 0, none⟩) 64 64) (hv := by first | rfl | (go_simp; done) | (go_simp; with_reducible rfl))
 obtain ⟨U2, hU2⟩ := exn (U1 % LL)
 have lU2 : U2 < LL := by rw [hU2]; exact mLL _
 have bU2 : U2 < 2 ^ 256 := Nat.lt_trans lU2 J36
 have HU2 := Lib.hid hU2
 clear hU2
 refine Lr ?_ (Y64 HU2.out (n := 64) (off := 0) k_t3 ap0 (by decide) (by rw [HU1.out]; exact Z9e _) (GA_ext hG off0.ext).2.2.1)
 intro W5 hO
 replace k_t2 := k_t2.o hO
 replace off0 := off0.o hO
 clear hO
 refine Lp ?_ k_t2 (cells := c4 U2)
 intro W6 hO h_
 replace k_t2 : Blk W6 J0a (c4 U2) 153 := h_
 clear h_
 replace off0 := off0.p hO J0r
 clear hO
 refine J3 ?_
 go_wp2
 rw [HU2.out, HU1.out] at k_t2
 exact bodyPost_ret (Y0 rfl rfl k_t2 (by kernel_rfl) (by kernel_rfl)) rfl ⟨rfl, off0.ext⟩
theorem Z5m (hd : kn.d) (hb : kn.b) (S : Nat) :
  ∀ w, GA kn w → Calls Tryz.prog 77 #[.agg (J0 .u8 32 (Q5 S))] w fun e w' => Ret (.agg (s3 (kN S) (kD S) (kP S))) w w' e := by
 obtain ⟨U1, hU1⟩ := exn (hs ((lb 32 S)))
 have HU1 := Lib.hid hU1
 clear hU1
 obtain ⟨U2, hU2⟩ := exn (clN (lo U1))
 have bU2 : U2 < 2 ^ 256 := by rw [hU2]; exact Z9f _
 have HU2 := Lib.hid hU2
 clear hU2
 obtain ⟨x1, y2, z3, t4, r5, c6⟩ := Q7t hb
 obtain ⟨x7, y8, z9, t10, r11, c12⟩ := Q1e hd r5.rw (N := U2) bU2
 obtain ⟨U3, hU3⟩ := exn (enc (pm BP U2))
 have bU3 : U3 < 2 ^ 256 := by rw [hU3]; exact Q4r _
 have HU3 := Lib.hid hU3
 clear hU3
 intro w hG
 have off0 : Off [] w w := Off.refl _ _
 go_enter Tryz.func77, Tryz.ntmps77
 go_upto_region 0 with fail
 refine wp_region_lit ?_
 refine Ln ?_ (z := J0 .u8 32 (Q5 S)) (t := 23)
 intro J1m W1 J8c hO h_
 replace off0 := off0.o hO
 have k_t1 := h_
 clear hO h_ J8c
 refine Ln ?_ (z := s3 0 0 0) (t := 140)
 intro J5o W2 J0l hO h_
 have J0r := fbn off0 J0l
 replace k_t1 := k_t1.o hO
 replace off0 := off0.o hO
 have k_t2 := h_
 clear hO h_ J0l
 refine J3 ?_
 go_upto_region 1 with fail
 refine wp_region_lit ?_
 refine Lw ?_ (v := .slice (some ⟨J1m, 0, none⟩) 32 32) (hv := by first | rfl | (go_simp; done) | (go_simp; with_reducible rfl))
 refine LnS ?_ (z := #[.slice (some ⟨J1m, 0, none⟩) 32 32]) (t := 22) (n := 1) (c := 1) (hr := by exact J0h [.slice (some ⟨J1m, 0, none⟩) 32 32] rfl rfl (vsc (rfl) vs0) Tryz.underlying113 (by kernel_rfl) (by kernel_rfl) rfl (by decide) (by decide))
 intro Z85 W3 V5q hO h_
 replace k_t1 := k_t1.o hO
 replace k_t2 := k_t2.o hO
 replace off0 := off0.o hO
 have V5r := h_
 clear hO h_ V5q
 refine Lr ?_ (Z9c HU1.out [lb 32 S] (some ⟨Z85, 0, none⟩) 1 (by simp only [List.flatten_cons, List.flatten_nil, List.append_nil, List.nil_append, List.append_assoc, List.cons_append]) (by first | omega | (simp only [List.length_append, List.length_cons, List.length_nil, Q2]; omega)) (by simp) W3 (J10 V5r (pvc (J03 (V := S) (n := 32) (off := 0) k_t1 ap0 (by decide) (by decide)) pv0)) (GA_ext hG off0.ext).2.1)
 intro W4 hO
 replace k_t2 := k_t2.o hO
 replace off0 := off0.o hO
 clear hO
 refine LnA ?_ (z := J0 .u8 64 (Q5 0)) (t := 45) (k := .u8) (n := 64) (f := Q5 U1)
 intro J75 W6 J20 hO h_
 replace k_t2 := k_t2.o hO
 replace off0 := off0.o hO
 have k_t3 := h_
 clear hO h_ J20
 refine J3 ?_
 go_upto_region 2 with fail
 refine Rx1 8 4 (z := s3 0 0 0) (t := 140) ?_
 refine Xw ?_ (v := .slice (some ⟨J75, 0, none⟩) 32 64)
 refine Xw ?_ (v := .pointer (some ⟨J75, 0, none⟩))
 refine Xls ?_ (sub := J0 .u8 32 (Q5 (lo U1))) (j := 0) k_t3 Z5n
 refine Xf ?_ (fun W hW => Z9d HU2.out W)
 refine Xw ?_ (v := .slice (some ⟨J75, 32, none⟩) 32 32)
 refine Xw ?_ (v := .pointer (some ⟨J75, 32, none⟩))
 refine Xls ?_ (sub := J0 .u8 32 (Q5 (hi U1))) (j := 32) k_t3 Y3m
 refine Xw ?_ (v := .agg (s3 U2 (hi U1) 0)) (hv := fun _ _ => by kernel_rfl)
 refine XN ?_
 intro Y99 W7 J2l hE h_t4
 have hO := Z7 hE
 have nq_t2_t4 := bn k_t2 J2l
 have J4r := fbn off0 J2l
 replace k_t2 := k_t2.o hO
 replace off0 := off0.o hO
 clear hO hE J2l
 have k_t4 : Blk W7 Y99 (s3 0 0 0) 140 := h_t4
 clear h_t4
 refine Lp ?_ k_t4 (cells := s3 U2 (hi U1) 0) (hi := by rw [J2m]; kernel_rfl) (hs := by first | rw [J2m, J2m] | rw [J2m] | kernel_rfl) (h1 := by exact Z1h)
 intro W8 hO h_
 replace k_t4 : Blk W8 Y99 (s3 U2 (hi U1) 0) 140 := h_
 clear h_
 replace k_t2 := k_t2.p hO nq_t2_t4
 replace off0 := off0.p hO J4r
 clear hO
 refine LN ?_
 go_upto_region 3 with fail
 refine Rx 6 ?_
 refine Xf ?_ (fun W hW => c6 W (GA_ext (GA_ext hG off0.ext) hW).1)
 refine Xv ?_
 refine Xls ?_ (sub := J0 .u8 32 (Q5 U2)) (j := 0) k_t4 V3h
 refine Xf ?_ (fun W hW => c12 W (GA_ext (GA_ext hG off0.ext) hW).1)
 refine Xf ?_ (fun W hW => Q86 r11.rw HU3.out W (GA_ext (GA_ext hG off0.ext) hW).1)
 refine Xv ?_
 refine Z4 fun W9 hE => ?_
 have hO := Z7 hE
 replace k_t2 := k_t2.o hO
 replace k_t4 := k_t4.o hO
 replace off0 := off0.o hO
 clear hO hE
 refine Y96 ?_ k_t4 (V := U3)
 intro W10 hO h_
 replace k_t4 : Blk W10 Y99 (s3 U2 (hi U1) U3) 140 := h_
 clear h_
 replace k_t2 := k_t2.p hO nq_t2_t4
 replace off0 := off0.p hO J4r
 clear hO
 refine LN ?_
 go_upto_region 4 with fail
 refine wp_region_lit ?_
 refine L0 ?_ k_t4 (hi := by rw [J2m]; kernel_rfl)
 refine Lp ?_ k_t2 (cells := s3 U2 (hi U1) U3) (hi := by rw [J2m]; kernel_rfl) (hs := by first | rw [J2m, J2m] | rw [J2m] | kernel_rfl) (h1 := by exact Z1h)
 intro W11 hO h_
 replace k_t2 : Blk W11 J5o (s3 U2 (hi U1) U3) 140 := h_
 clear h_
 replace off0 := off0.p hO J0r
 clear hO
 refine J3 ?_
 go_wp2
 rw [show s3 U2 (hi U1) U3 = s3 (kN S) (kD S) (kP S) by rw [HU3.out, HU2.out, HU1.out]; rfl] at k_t2
 exact bodyPost_ret (Y0 rfl rfl k_t2 (by kernel_rfl) (by rw [J2m]; kernel_rfl)) rfl ⟨rfl, off0.ext⟩
end
end Go.Proofs.YtejkmhgkkibafaaGreatDoor.S8
