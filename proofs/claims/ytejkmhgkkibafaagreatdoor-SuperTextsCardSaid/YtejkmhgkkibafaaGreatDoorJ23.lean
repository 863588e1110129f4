/- edwards: Same, Encode, Decode. Conditions: the cells of the variables hold the curve's numbers. edwards.Times. Conditions: the cells of the variables hold the curve's numbers. -/
import Derived.Test.YtejkmhgkkibafaaGreatDoorGc
import Derived.Test.YtejkmhgkkibafaaGreatDoorJ8
import Derived.Test.YtejkmhgkkibafaaGreatDoorOz
import Derived.Test.YtejkmhgkkibafaaGreatDoorJ11
import Derived.Test.YtejkmhgkkibafaaGreatDoorS8Ei
import Derived.Test.YtejkmhgkkibafaaGreatDoorS8EdC
set_option linter.unusedSimpArgs false
set_option linter.unusedVariables false
namespace Go.Proofs.YtejkmhgkkibafaaGreatDoor.S8
set_option maxHeartbeats 1500000
set_option maxRecDepth 100000
open Go.RowKit
attribute [local irreducible] wpList
variable {kn : Kn}
theorem lt_256p {A : Nat} (h : A < PP) : A < 2 ^ 256 := Nat.lt_trans h (by decide)
/-- the bytes of a point, by the inverse -/
theorem enc_1 {X Y Z i x y : Nat} {a : Pr} (r : RD X Y Z a) (ei : i = pw Z (PP - 2)) (ex : x = X * i % PP) (ey : y = Y * i % PP) (ho : x % 2 = 1) : arrK .u8 32 (upd (byt y) 31 (bits .or .u8 (byt y 31) 128)) = arrK .u8 32 (byt (enc a)) := by
  obtain ⟨h1, h2⟩ := inv_xy r ei ex ey
  rw [set31 (Nat.lt_trans (ey ▸ mod_pp _) PP_top)]
  unfold enc
  rw [← h1, ← h2, ho]
theorem enc_0 {X Y Z i x y : Nat} {a : Pr} (r : RD X Y Z a) (ei : i = pw Z (PP - 2)) (ex : x = X * i % PP) (ey : y = Y * i % PP) (ho : ¬ x % 2 = 1) : arrK .u8 32 (byt y) = arrK .u8 32 (byt (enc a)) := by
  obtain ⟨h1, h2⟩ := inv_xy r ei ex ey
  have : x % 2 = 0 := by omega
  unfold enc
  rw [← h1, ← h2, this, Nat.mul_zero, Nat.add_zero]

theorem eEnc_c {X1 Y1 Z1 T1 : Nat} {p1 : Pr} (h1 : RW X1 Y1 Z1 T1 p1) :
  ∀ w, GE kn w → Calls Tryz.prog 92 #[.agg (p4 X1 Y1 Z1 T1)] w fun e w' => Ret (.agg (arrK .u8 32 (byt (enc p1)))) w w' e := by
 obtain ⟨x1, y2, z3, t4, r5, c6⟩ := eWhole_c (kn := kn) h1
 have c_N7 := fInv_c z3 (lt_pp r5.z)
 obtain ⟨N7, hN7⟩ := exn (pw z3 (PP - 2))
 rw [← hN7] at c_N7
 have lN7 := bpp hN7
 have bN7 := lt_pp lN7
 have HN7 := Lib.hid hN7
 clear hN7
 have c_N8 := fMul_c y2 N7 (lt_pp r5.y) bN7
 obtain ⟨N8, hN8⟩ := exn (y2 * N7 % PP)
 rw [← hN8] at c_N8
 have lN8 := bpp hN8
 have bN8 := lt_pp lN8
 have HN8 := Lib.hid hN8
 clear hN8
 have cb9 := fBytes_c N8 bN8
 rw [Nat.mod_eq_of_lt lN8] at cb9
 have c_N10 := fMul_c x1 N7 (lt_pp r5.x) bN7
 obtain ⟨N10, hN10⟩ := exn (x1 * N7 % PP)
 rw [← hN10] at c_N10
 have lN10 := bpp hN10
 have bN10 := lt_pp lN10
 have HN10 := Lib.hid hN10
 clear hN10
 have cd11 := fOdd_c N10 bN10
 rw [Nat.mod_eq_of_lt lN10] at cd11
 intro w hG
 have off0 : Off [] w w := Off.refl _ _
 go_enter Tryz.func92, Tryz.ntmps92
 go_upto_region 0 with fail
 refine wp_region_lit ?_
 refine Ln ?_ (z := p4 X1 Y1 Z1 T1) (t := 157)
 intro p1_1 W1 n_t1 hO h_
 have fb_t1 := fbn off0 n_t1
 replace off0 := off0.o hO
 have k_t1 := h_
 clear hO h_ n_t1
 refine Ln ?_ (z := arrK .u8 32 (byt 0)) (t := 23)
 intro p2_2 W2 n_t2 hO h_
 have nq_t1_t2 := bn k_t1 n_t2
 have fb_t2 := fbn off0 n_t2
 replace k_t1 := k_t1.o hO
 replace off0 := off0.o hO
 have k_t2 := h_
 clear hO h_ n_t2
 refine wpL_nil ?_
 go_upto_region 1 with fail
 refine wp_region_lit ?_
 refine L0 ?_ k_t1
 refine Lr ?_ (c6 W2 (GE_ext hG off0.ext))
 intro W3 hO
 replace k_t1 := k_t1.o hO
 replace k_t2 := k_t2.o hO
 replace off0 := off0.o hO
 clear hO
 refine Lp ?_ k_t1 (cells := p4 x1 y2 z3 t4)
 intro W4 hO h_
 replace k_t1 : Blk W4 p1_1 (p4 x1 y2 z3 t4) 157 := h_
 clear h_
 replace k_t2 := k_t2.p hO nq_t1_t2.symm
 replace off0 := off0.p hO fb_t1
 clear hO
 refine wpL_nil ?_
 go_upto_region 2 with fail
 refine wp_region_lit ?_
 refine Lv ?_
 refine wpL_gets (vs := (c4 z3).toList) (by rfl) rfl rfl k_t1 (subL p4c2) (by kernel_rfl) (by kernel_rfl) ?_
 (try simp only [Act.put, mA, mB, mC])
 refine Lr ?_ (c_N7 W4 (GE_ext hG off0.ext).1)
 intro W5 hO
 replace k_t1 := k_t1.o hO
 replace k_t2 := k_t2.o hO
 replace off0 := off0.o hO
 clear hO
 refine LnP ?_ (z := c4 0) (t := 155) (cells := c4 N7)
 intro p3_6 W7 n_t3 hO h_
 have nq_t2_t3 := bn k_t2 n_t3
 replace k_t1 := k_t1.o hO
 replace k_t2 := k_t2.o hO
 replace off0 := off0.o hO
 have k_t3 := h_
 clear hO h_ n_t3
 refine wpL_nil ?_
 go_upto_region 3 with fail
 refine wp_region_lit ?_
 refine Lv ?_
 refine wpL_gets (vs := (c4 y2).toList) (by rfl) rfl rfl k_t1 (subL p4c1) (by kernel_rfl) (by kernel_rfl) ?_
 (try simp only [Act.put, mA, mB, mC])
 refine L0 ?_ k_t3
 refine Lr ?_ (c_N8 W7 (GE_ext hG off0.ext).1)
 intro W8 hO
 replace k_t1 := k_t1.o hO
 replace k_t2 := k_t2.o hO
 replace k_t3 := k_t3.o hO
 replace off0 := off0.o hO
 clear hO
 refine Lr ?_ (cb9 W8 (GE_ext hG off0.ext).1)
 intro W9 hO
 replace k_t1 := k_t1.o hO
 replace k_t2 := k_t2.o hO
 replace k_t3 := k_t3.o hO
 replace off0 := off0.o hO
 clear hO
 refine LnA ?_ (z := arrK .u8 32 (byt 0)) (t := 23) (k := .u8) (n := 32) (f := byt N8)
 intro p4_10 W11 n_t4 hO h_
 have nq_t1_t4 := bn k_t1 n_t4
 have nq_t2_t4 := bn k_t2 n_t4
 have nq_t3_t4 := bn k_t3 n_t4
 have fb_t4 := fbn off0 n_t4
 replace k_t1 := k_t1.o hO
 replace k_t2 := k_t2.o hO
 replace k_t3 := k_t3.o hO
 replace off0 := off0.o hO
 have k_t4 := h_
 clear hO h_ n_t4
 refine wpL_nil ?_
 by_cases ho : N10 % 2 = 1
 ·
  have _f := ho
  go_upto_region 4 with fail
  refine wp_region_lit ?_
  refine Lv ?_
  refine wpL_gets (vs := (c4 x1).toList) (by rfl) rfl rfl k_t1 (subL p4c0) (by kernel_rfl) (by kernel_rfl) ?_
  (try simp only [Act.put, mA, mB, mC])
  refine L0 ?_ k_t3
  refine Lr ?_ (c_N10 W11 (GE_ext hG off0.ext).1)
  intro W12 hO
  replace k_t1 := k_t1.o hO
  replace k_t2 := k_t2.o hO
  replace k_t3 := k_t3.o hO
  replace k_t4 := k_t4.o hO
  replace off0 := off0.o hO
  clear hO
  rw [decide_eq_true ho] at cd11
  refine Lr ?_ (cd11 W12 (GE_ext hG off0.ext).1)
  intro W13 hO
  replace k_t1 := k_t1.o hO
  replace k_t2 := k_t2.o hO
  replace k_t3 := k_t3.o hO
  replace k_t4 := k_t4.o hO
  replace off0 := off0.o hO
  clear hO
  refine wpL_nil ?_
  go_upto_region 5 with fail
  refine wp_region_lit ?_
  refine Lw ?_ (v := .pointer (some ⟨p4_10, 0 + 31, none⟩)) (hv := run_ixarr (m := 32) (by decide) (by decide) Tryz.underlying23 (by kernel_rfl) rfl rfl rfl)
  refine Lg ?_ k_t4 (v := .int .u8 ((byt N8) 31)) (hj := by rw [Nat.zero_add]; exact arrK_get _ _ _ _ (by decide))
  refine Lw ?_ (v := .int .u8 (bits .or .u8 (byt N8 31) 128)) (hv := by exact run_orU rfl rfl rfl rfl)
  refine Lw ?_ (v := .pointer (some ⟨p4_10, 0 + 31, none⟩)) (hv := run_ixarr (m := 32) (by decide) (by decide) Tryz.underlying23 (by kernel_rfl) rfl rfl rfl)
  refine wpL_put1 (v := .int .u8 (bits .or .u8 (byt N8 31) 128)) ⟨rfl, rfl⟩ (by rfl) rfl rfl rfl k_t4 (by rw [arrK_size, Nat.zero_add]; decide) (by kernel_rfl) ?_
  (try simp only [Act.put, mA, mB, mC])
  intro W14 hO h_
  rw [Nat.zero_add, arrK_set] at h_
  replace k_t4 : Blk W14 p4_10 (arrK .u8 32 (upd (byt N8) 31 (bits .or .u8 (byt N8 31) 128))) 23 := h_
  clear h_
  replace k_t1 := k_t1.p hO nq_t1_t4
  replace k_t2 := k_t2.p hO nq_t2_t4
  replace k_t3 := k_t3.p hO nq_t3_t4
  replace off0 := off0.p hO fb_t4
  clear hO
  rw [enc_1 r5.rr HN7.out HN10.out HN8.out ho] at k_t4
  refine wpL_nil ?_
  go_upto_region 6 with fail
  refine wp_region_lit ?_
  refine L0A ?_ k_t4
  refine LpA ?_ k_t2 (k := .u8) (n := 32) (f := byt (enc p1))
  intro W15 hO h_
  replace k_t2 : Blk W15 p2_2 (arrK .u8 32 (byt (enc p1))) 23 := h_
  clear h_
  replace k_t1 := k_t1.p hO nq_t1_t2
  replace k_t3 := k_t3.p hO nq_t2_t3.symm
  replace k_t4 := k_t4.p hO nq_t2_t4.symm
  replace off0 := off0.p hO fb_t2
  clear hO
  refine wpL_nil ?_
  go_wp2
  exact bodyPost_ret (res_row rfl rfl k_t2 (by kernel_rfl) (by rw [arrK_size]; kernel_rfl)) rfl ⟨rfl, off0.ext⟩
 ·
  have _f := ho
  go_upto_region 4 with fail
  refine wp_region_lit ?_
  refine Lv ?_
  refine wpL_gets (vs := (c4 x1).toList) (by rfl) rfl rfl k_t1 (subL p4c0) (by kernel_rfl) (by kernel_rfl) ?_
  (try simp only [Act.put, mA, mB, mC])
  refine L0 ?_ k_t3
  refine Lr ?_ (c_N10 W11 (GE_ext hG off0.ext).1)
  intro W12 hO
  replace k_t2 := k_t2.o hO
  replace k_t4 := k_t4.o hO
  replace off0 := off0.o hO
  clear hO
  rw [decide_eq_false ho] at cd11
  refine Lr ?_ (cd11 W12 (GE_ext hG off0.ext).1)
  intro W13 hO
  replace k_t2 := k_t2.o hO
  replace k_t4 := k_t4.o hO
  replace off0 := off0.o hO
  clear hO
  refine wpL_nil ?_
  rw [enc_0 r5.rr HN7.out HN10.out HN8.out ho] at k_t4
  go_upto_region 6 with fail
  refine wp_region_lit ?_
  refine L0A ?_ k_t4
  refine LpA ?_ k_t2 (k := .u8) (n := 32) (f := byt (enc p1))
  intro W14 hO h_
  replace k_t2 : Blk W14 p2_2 (arrK .u8 32 (byt (enc p1))) 23 := h_
  clear h_
  replace off0 := off0.p hO fb_t2
  clear hO
  refine wpL_nil ?_
  go_wp2
  exact bodyPost_ret (res_row rfl rfl k_t2 (by kernel_rfl) (by rw [arrK_size]; kernel_rfl)) rfl ⟨rfl, off0.ext⟩
end Go.Proofs.YtejkmhgkkibafaaGreatDoor.S8

set_option linter.unusedSimpArgs false
set_option linter.unusedVariables false
namespace Go.Proofs.YtejkmhgkkibafaaGreatDoor.S8
set_option maxHeartbeats 1500000
set_option maxRecDepth 100000
open Go.RowKit
attribute [local irreducible] wpList
variable {kn : Kn}
theorem bit_and1 {p : Int} {x : Nat} (h : p = (x : Int)) (hx : x < 256) : bits .and .u8 p 1 = ((x % 2 : Nat) : Int) := by
  subst h
  refine (u8_and_nat x 1 hx (by decide)).trans ?_
  rw [Nat.and_one_is_mod]
theorem byt_bit (n q r : Nat) (hr : r < 8) : bits .and .u8 (byt n q / 2 ^ r) 1 = ((n / 2 ^ (8 * q + r) % 2 : Nat) : Int) := by
  have h0 : n / 2 ^ (8 * q) % 256 / 2 ^ r % 2 = n / 2 ^ (8 * q + r) % 2 := by
    rw [Nat.pow_add, ← Nat.div_div_eq_div_mul]
    generalize n / 2 ^ (8 * q) = x
    obtain ⟨d, hd⟩ : ∃ d, 8 = r + (1 + d) := ⟨7 - r, by omega⟩
    rw [show 256 = 2 ^ 8 by decide, hd, Nat.pow_add 2 r, Nat.mod_mul_right_div_self, Nat.pow_add 2 1 d, Nat.pow_one, Nat.mod_mul_right_mod]
  have e : byt n q / 2 ^ r = ((n / 2 ^ (8 * q) % 256 / 2 ^ r : Nat) : Int) := by
    unfold byt
    rw [Int.natCast_ediv, Int.natCast_pow]; rfl
  rw [bit_and1 e (Nat.lt_of_le_of_lt (Nat.div_le_self _ _) (Nat.mod_lt _ (by decide))), h0]
theorem pm_step {a : Pr} (ha : OnC a) {n i : Nat} (h : n / 2 ^ i % 2 = 0) : pm a (n / 2 ^ i) = padd (pm a (n / 2 ^ (i + 1))) (pm a (n / 2 ^ (i + 1))) := by
  rw [← pm_twice ha]
  congr 1
  rw [Nat.pow_succ, ← Nat.div_div_eq_div_mul]; omega
theorem pm_step1 {a : Pr} (ha : OnC a) {n i : Nat} (h : n / 2 ^ i % 2 = 1) : pm a (n / 2 ^ i) = padd (padd (pm a (n / 2 ^ (i + 1))) (pm a (n / 2 ^ (i + 1)))) a := by
  rw [← pm_odd ha]
  congr 1
  rw [Nat.pow_succ, ← Nat.div_div_eq_div_mul]; omega
abbrev T4 := Nat × Nat × Nat × Nat
def pc (s : T4) : Array Value := p4 s.1 s.2.1 s.2.2.1 s.2.2.2
def RT (s : T4) (a : Pr) : Prop := RN s.1 s.2.1 s.2.2.1 s.2.2.2 a
structure TStep (kn : Kn) (P : T4) (n j : Nat) (s g s' : T4) : Prop where
  tw : ∀ w, GE kn w → Calls Tryz.prog 132 #[.agg (pc s)] w fun e w' => Ret (.agg (pc g)) w w' e
  ad : n / 2 ^ j % 2 = 1 → ∀ w, GE kn w → Calls Tryz.prog 107 #[.agg (pc g), .agg (pc P)] w fun e w' => Ret (.agg (pc s')) w w' e
  no : ¬ n / 2 ^ j % 2 = 1 → s' = g
theorem tstep (hd : kn.d) {P s : T4} {a : Pr} {n j : Nat} (hP : RT P a) (hs : RT s (pm a (n / 2 ^ (j + 1)))) : ∃ g s', TStep kn P n j s g s' ∧ RT s' (pm a (n / 2 ^ j)) := by
  obtain ⟨x, y, z, t, r, c⟩ := eTwice_c (kn := kn) hs
  by_cases h : n / 2 ^ j % 2 = 1
  · obtain ⟨x', y', z', t', r', c'⟩ := eAdd_c hd r.rw hP.rw
    exact ⟨(x, y, z, t), (x', y', z', t'), ⟨c, fun _ => c', fun h0 => absurd h h0⟩, by rw [pm_step1 hP.on h]; exact r'⟩
  · exact ⟨(x, y, z, t), (x, y, z, t), ⟨c, fun h0 => absurd h0 h, fun _ => rfl⟩, by rw [pm_step hP.on (by omega)]; exact r⟩
theorem tseq (hd : kn.d) {P s0 : T4} {a : Pr} {n : Nat} (hP : RT P a) (h0 : RT s0 (pm a (n / 2 ^ 256))) : ∀ m, m ≤ 256 → ∃ f g : Nat → T4, f 256 = s0 ∧ (∀ j, 256 - m ≤ j → j ≤ 256 → RT (f j) (pm a (n / 2 ^ j))) ∧ ∀ j, 256 - m ≤ j → j < 256 → TStep kn P n j (f (j + 1)) (g j) (f j)
  | 0, _ => ⟨fun _ => s0, fun _ => s0, rfl, fun j h1 h2 => by rw [show j = 256 by omega]; exact h0, fun j h1 h2 => by omega⟩
  | m + 1, hm => by
    obtain ⟨f, g, e0, e1, e2⟩ := tseq hd hP h0 m (by omega)
    obtain ⟨k, hk⟩ : ∃ k, k = 255 - m := ⟨_, rfl⟩
    obtain ⟨x, s', st, hr⟩ := tstep hd (j := k) hP (e1 (k + 1) (by omega) (by omega))
    refine ⟨fun j => if j = k then s' else f j, fun j => if j = k then x else g j, ?_, fun j h1 h2 => ?_, fun j h1 h2 => ?_⟩
    · show (if 256 = k then s' else f 256) = s0
      rw [if_neg (by omega)]; exact e0
    · show RT (if j = k then s' else f j) _
      by_cases h : j = k
      · rw [if_pos h, h]; exact hr
      · rw [if_neg h]; exact e1 j (by omega) h2
    · show TStep kn P n j (if j + 1 = k then s' else f (j + 1)) (if j = k then x else g j) (if j = k then s' else f j)
      rw [if_neg (by omega)]
      by_cases h : j = k
      · rw [if_pos h, if_pos h, h]; exact st
      · rw [if_neg h, if_neg h]; exact e2 j (by omega) h2

theorem eTimes_c (hd : kn.d) {X1 Y1 Z1 T1 : Nat} {p1 : Pr} (h1 : RW X1 Y1 Z1 T1 p1) {N : Nat} (hN : N < 2 ^ 256) :
  ∃ X Y Z T, RN X Y Z T (pm p1 N) ∧ ∀ w, GE kn w → Calls Tryz.prog 90 #[.agg (p4 X1 Y1 Z1 T1), .agg (arrK .u8 32 (byt N))] w fun e w' => Ret (.agg (p4 X Y Z T)) w w' e := by
 obtain ⟨x1, y2, z3, t4, r5, c6⟩ := eWhole_c (kn := kn) rw_zero
 obtain ⟨x7, y8, z9, t10, r11, c12⟩ := eWhole_c (kn := kn) h1
 obtain ⟨f, gg, hf0, hfr, hfs⟩ := tseq hd (P := (x7, y8, z9, t10)) (s0 := (x1, y2, z3, t4)) (n := N) r11 (by rw [Nat.div_eq_of_lt hN]; exact r5) 256 (Nat.le_refl _)
 have Hf0 := Lib.hid hf0
 clear hf0
 refine ⟨(f 0).1, (f 0).2.1, (f 0).2.2.1, (f 0).2.2.2, (by have := hfr 0 (Nat.zero_le _) (Nat.zero_le _); rw [Nat.pow_zero, Nat.div_one] at this; exact this), fun w hG => ?_⟩
 have off0 : Off [] w w := Off.refl _ _
 go_enter Tryz.func90, Tryz.ntmps90
 go_upto_region 0 with fail
 refine wp_region_lit ?_
 refine Ln ?_ (z := p4 X1 Y1 Z1 T1) (t := 157)
 intro p2_1 W1 n_t2 hO h_
 have fb_t2 := fbn off0 n_t2
 replace off0 := off0.o hO
 have k_t2 := h_
 clear hO h_ n_t2
 refine Ln ?_ (z := arrK .u8 32 (byt N)) (t := 23)
 intro p3_2 W2 n_t3 hO h_
 have nq_t2_t3 := bn k_t2 n_t3
 replace k_t2 := k_t2.o hO
 replace off0 := off0.o hO
 have k_t3 := h_
 clear hO h_ n_t3
 refine Ln ?_ (z := p4 0 0 0 0) (t := 157)
 intro p4_3 W3 n_t4 hO h_
 have nq_t2_t4 := bn k_t2 n_t4
 have nq_t3_t4 := bn k_t3 n_t4
 have fb_t4 := fbn off0 n_t4
 replace k_t2 := k_t2.o hO
 replace k_t3 := k_t3.o hO
 replace off0 := off0.o hO
 have k_t4 := h_
 clear hO h_ n_t4
 refine wpL_nil ?_
 go_upto_region 1 with fail
 refine wp_region_lit ?_
 refine Lw ?_ (v := .agg (p4 0 0 0 0)) (hv := by kernel_rfl)
 refine Lr ?_ (c6 W3 (GE_ext hG off0.ext))
 intro W4 hO
 replace k_t2 := k_t2.o hO
 replace k_t3 := k_t3.o hO
 replace k_t4 := k_t4.o hO
 replace off0 := off0.o hO
 clear hO
 refine LnP ?_ (z := p4 0 0 0 0) (t := 157) (cells := p4 x1 y2 z3 t4)
 intro p5_5 W6 n_t5 hO h_
 have nq_t2_t5 := bn k_t2 n_t5
 have nq_t3_t5 := bn k_t3 n_t5
 have nq_t4_t5 := bn k_t4 n_t5
 have fb_t5 := fbn off0 n_t5
 replace k_t2 := k_t2.o hO
 replace k_t3 := k_t3.o hO
 replace k_t4 := k_t4.o hO
 replace off0 := off0.o hO
 have k_t5 := h_
 clear hO h_ n_t5
 refine wpL_nil ?_
 go_upto_region 2 with fail
 refine wp_region_lit ?_
 refine L0 ?_ k_t2
 refine Lr ?_ (c12 W6 (GE_ext hG off0.ext))
 intro W7 hO
 replace k_t2 := k_t2.o hO
 replace k_t3 := k_t3.o hO
 replace k_t4 := k_t4.o hO
 replace k_t5 := k_t5.o hO
 replace off0 := off0.o hO
 clear hO
 refine Lp ?_ k_t2 (cells := p4 x7 y8 z9 t10)
 intro W8 hO h_
 replace k_t2 : Blk W8 p2_1 (p4 x7 y8 z9 t10) 157 := h_
 clear h_
 replace k_t3 := k_t3.p hO nq_t2_t3.symm
 replace k_t4 := k_t4.p hO nq_t2_t4.symm
 replace k_t5 := k_t5.p hO nq_t2_t5.symm
 replace off0 := off0.p hO fb_t2
 clear hO
 refine wpL_nil ?_
 go_wp2_with fail
 go_loopw [6] (fun si wr => ∃ (j : Nat), (j ≤ 256) ∧ (si = .int .i64 ((j : Int) - 1)) ∧ Off [] w wr ∧ Blk wr p2_1 (p4 x7 y8 z9 t10) 157 ∧ Blk wr p3_2 (arrK .u8 32 (byt N)) 23 ∧ Blk wr p4_3 (p4 0 0 0 0) 157 ∧ Blk wr p5_5 (pc (f j)) 157)
  (fun si _ => (intOf si + 1).toNat)
 case atStart => exact ⟨256, Nat.le_refl _, rfl, off0, k_t2, k_t3, k_t4, (by rw [Hf0.out]; exact k_t5)⟩
 case round =>
  obtain ⟨j, hj, rfl, off0, k_t2, k_t3, k_t4, k_t5⟩ := hrel
  obtain ⟨W9, eW_⟩ := wname off0
  subst eW_
  by_cases hz : j = 0
  ·
   have _f := hz
   subst hz
   go_upto_region 4 with fail
   refine wp_region_lit ?_
   refine Lv ?_
   refine Lw ?_ (v := .bool false)
   refine wpL_nil ?_
   go_upto_region 9 with fail
   refine wp_region_lit ?_
   refine L0 ?_ k_t5
   refine Lp ?_ k_t4 (cells := pc (f 0))
   intro W10 hO h_
   replace k_t4 : Blk W10 p4_3 (pc (f 0)) 157 := h_
   clear h_
   replace k_t2 := k_t2.p hO nq_t2_t4
   replace k_t3 := k_t3.p hO nq_t3_t4
   replace k_t5 := k_t5.p hO nq_t4_t5.symm
   replace off0 := off0.p hO fb_t4
   clear hO
   refine wpL_nil ?_
   go_wp2
   exact bodyPost_ret (res_row rfl rfl k_t4 (by kernel_rfl) (by kernel_rfl)) rfl ⟨rfl, off0.ext⟩
  ·
   have _f := hz
   obtain ⟨i, rfl⟩ : ∃ i, j = i + 1 := ⟨j - 1, by omega⟩
   have hst := hfs i (by omega) (by omega)
   rw [show ((i + 1 : Nat) : Int) - 1 = (i : Int) by omega]
   go_upto_region 4 with fail
   refine wp_region_lit ?_
   refine Lv ?_
   refine Lw ?_ (v := .bool true)
   refine wpL_nil ?_
   go_upto_region 6 with fail
   refine wp_region_lit ?_
   refine L0 ?_ k_t5
   refine Lr ?_ (hst.tw W9 (GE_ext hG off0.ext))
   intro W10 hO
   replace k_t2 := k_t2.o hO
   replace k_t3 := k_t3.o hO
   replace k_t4 := k_t4.o hO
   replace k_t5 := k_t5.o hO
   replace off0 := off0.o hO
   clear hO
   refine Lp ?_ k_t5 (cells := pc (gg i))
   intro W11 hO h_
   replace k_t5 : Blk W11 p5_5 (pc (gg i)) 157 := h_
   clear h_
   replace k_t2 := k_t2.p hO nq_t2_t5
   replace k_t3 := k_t3.p hO nq_t3_t5
   replace k_t4 := k_t4.p hO nq_t4_t5
   replace off0 := off0.p hO fb_t5
   clear hO
   refine wpL_nil ?_
   by_cases hbit : N / 2 ^ i % 2 = 1
   ·
    have _f := hbit
    have hand : bits .and .u8 (byt N (i / 8) / 2 ^ (i % 8)) 1 = 1 := by rw [byt_bit _ _ _ (by omega), show 8 * (i / 8) + i % 8 = i by omega, hbit]; rfl
    clear _f
    have Hbit := Lib.hid hbit
    clear hbit
    go_upto_region 7 with fail
    refine wp_region_lit ?_
    refine Lv ?_
    refine Lw ?_ (v := .int .i64 ((i / 8 : Nat) : Int)) (hv := by exact run_quoN (m := 8) (by decide) (by omega) rfl rfl rfl)
    refine Lw ?_ (v := .pointer (some ⟨p3_2, 0 + (i / 8), none⟩)) (hv := run_ixarr (m := 32) (by decide) (by omega) Tryz.underlying23 (by kernel_rfl) rfl rfl rfl)
    refine Lg ?_ k_t3 (v := .int .u8 ((byt N) (i / 8))) (hj := by rw [Nat.zero_add]; exact arrK_get _ _ _ _ (by omega))
    refine Lv ?_
    refine Lw ?_ (v := .int .i64 ((i % 8 : Nat) : Int)) (hv := by exact run_remN (m := 8) (by decide) (by omega) rfl rfl rfl)
    refine Lw ?_ (v := .int .u8 (byt N (i / 8) / 2 ^ (i % 8))) (hv := by exact run_shrU (by omega) rfl rfl rfl)
    refine Lw ?_ (v := .int .u8 1) (hv := by exact run_andU hand rfl rfl rfl)
    refine Lw ?_ (v := .bool true)
    refine wpL_nil ?_
    go_upto_region 8 with fail
    refine wp_region_lit ?_
    refine L0 ?_ k_t5
    refine L0 ?_ k_t2
    refine Lr ?_ (hst.ad Hbit.out W11 (GE_ext hG off0.ext))
    intro W12 hO
    replace k_t2 := k_t2.o hO
    replace k_t3 := k_t3.o hO
    replace k_t4 := k_t4.o hO
    replace k_t5 := k_t5.o hO
    replace off0 := off0.o hO
    clear hO
    refine Lp ?_ k_t5 (cells := pc (f i))
    intro W13 hO h_
    replace k_t5 : Blk W13 p5_5 (pc (f i)) 157 := h_
    clear h_
    replace k_t2 := k_t2.p hO nq_t2_t5
    replace k_t3 := k_t3.p hO nq_t3_t5
    replace k_t4 := k_t4.p hO nq_t4_t5
    replace off0 := off0.p hO fb_t5
    clear hO
    refine wpL_nil ?_
    go_wp2
    go_roundw
    case rel => exact ⟨i, by omega, by go_num, off0, k_t2, k_t3, k_t4, k_t5⟩
    case measure => first | (simp [intOf]; done) | (simp [intOf]; omega)
   ·
    have _f := hbit
    have hand : bits .and .u8 (byt N (i / 8) / 2 ^ (i % 8)) 1 = 0 := by rw [byt_bit _ _ _ (by omega), show 8 * (i / 8) + i % 8 = i by omega, show N / 2 ^ i % 2 = 0 by omega]; rfl
    clear _f
    have Hbit := Lib.hid hbit
    clear hbit
    go_upto_region 7 with fail
    refine wp_region_lit ?_
    refine Lv ?_
    refine Lw ?_ (v := .int .i64 ((i / 8 : Nat) : Int)) (hv := by exact run_quoN (m := 8) (by decide) (by omega) rfl rfl rfl)
    refine Lw ?_ (v := .pointer (some ⟨p3_2, 0 + (i / 8), none⟩)) (hv := run_ixarr (m := 32) (by decide) (by omega) Tryz.underlying23 (by kernel_rfl) rfl rfl rfl)
    refine Lg ?_ k_t3 (v := .int .u8 ((byt N) (i / 8))) (hj := by rw [Nat.zero_add]; exact arrK_get _ _ _ _ (by omega))
    refine Lv ?_
    refine Lw ?_ (v := .int .i64 ((i % 8 : Nat) : Int)) (hv := by exact run_remN (m := 8) (by decide) (by omega) rfl rfl rfl)
    refine Lw ?_ (v := .int .u8 (byt N (i / 8) / 2 ^ (i % 8))) (hv := by exact run_shrU (by omega) rfl rfl rfl)
    refine Lw ?_ (v := .int .u8 0) (hv := by exact run_andU hand rfl rfl rfl)
    refine Lw ?_ (v := .bool false)
    refine wpL_nil ?_
    go_wp2
    go_roundw
    case rel => exact ⟨i, by omega, by go_num, off0, k_t2, k_t3, k_t4, (by rw [hst.no Hbit.out]; exact k_t5)⟩
    case measure => first | (simp [intOf]; done) | (simp [intOf]; omega)
end Go.Proofs.YtejkmhgkkibafaaGreatDoor.S8
