/- custumallaw08: SignTwins. Conditions: the cells of the variables hold their numbers. -/
import Derived.Test.YtefpoollmbmkfaaDoorGc
import Derived.Test.YtefpoollmbmkfaaDoorSgE
namespace Go.Proofs.YtefpoollmbmkfaaDoor
set_option maxHeartbeats 2000000
set_option maxRecDepth 100000
set_option linter.unusedSimpArgs false
set_option linter.unusedVariables false
open Go.RowKit
attribute [local irreducible] wpList
variable {kn : Kn}
open Sc (LL clampF)
theorem order_a (w : World) (hG : Sc.GL w) : Calls Tryd.prog 22 #[] w fun e w' => Ret (.agg (arrK .u64 4 (lim LL))) w w' e := Sc.order_c w hG
theorem add_byte (n m B : Nat) (hB : 0 < B) : (n + m) / B % 256 = (n / B % 256 + m / B % 256 + (n % B + m % B) / B) % 256 := by
  have h : n + m = B * (n / B + m / B) + (n % B + m % B) := by
    have h1 := Nat.div_add_mod n B
    have h2 := Nat.div_add_mod m B
    rw [Nat.mul_add]; omega
  have e : (n + m) / B = n / B + m / B + (n % B + m % B) / B := by rw [h, Nat.mul_add_div hB]
  rw [e]; omega
theorem add_carry (n m B : Nat) (hB : 0 < B) : (n % (B * 256) + m % (B * 256)) / (B * 256) = (n / B % 256 + m / B % 256 + (n % B + m % B) / B) / 256 := by
  rw [Nat.mod_mul, Nat.mod_mul, ← Nat.div_div_eq_div_mul, show n % B + B * (n / B % 256) + (m % B + B * (m / B % 256)) = B * (n / B % 256 + m / B % 256) + (n % B + m % B) by rw [Nat.mul_add]; omega, Nat.mul_add_div hB]
def tw (G i : Nat) : Nat → Int := fun j => if 32 ≤ j ∧ j < 32 + i then byt (hi G + LL) (j - 32) else byt G j
def cy (n i : Nat) : Nat := (n % 2 ^ (8 * i) + LL % 2 ^ (8 * i)) / 2 ^ (8 * i)
def sN (n i : Nat) : Nat := n / 2 ^ (8 * i) % 256 + LL / 2 ^ (8 * i) % 256 + cy n i
theorem cy_le (n i : Nat) : cy n i ≤ 1 := by
  unfold cy
  have h1 := Nat.mod_lt n (Nat.two_pow_pos (8 * i))
  have h2 := Nat.mod_lt LL (Nat.two_pow_pos (8 * i))
  generalize 2 ^ (8 * i) = B at *
  have : (n % B + LL % B) < 2 * B := by omega
  have := (Nat.div_lt_iff_lt_mul (show 0 < B by omega)).2 this
  omega
theorem cy_step (n i : Nat) : cy n (i + 1) = sN n i / 256 := by
  unfold cy sN
  rw [show 8 * (i + 1) = 8 * i + 8 by omega, Nat.pow_add]
  exact add_carry n LL (2 ^ (8 * i)) (Nat.two_pow_pos _)
theorem cy_zero (n : Nat) : cy n 0 = 0 := by unfold cy; rw [Nat.mul_zero, Nat.pow_zero, Nat.mod_one, Nat.mod_one]
theorem cy_end {n : Nat} (h : n < LL) : cy n 32 = 0 := by
  unfold cy
  rw [show 8 * 32 = 256 by rfl, Nat.mod_eq_of_lt (Nat.lt_trans h LL_256), Nat.mod_eq_of_lt LL_256]
  refine Nat.div_eq_of_lt ?_
  have h2 : LL + LL < 2 ^ 256 := by decide
  omega
theorem tw_at (G i : Nat) : tw G i (32 + i) = ((hi G / 2 ^ (8 * i) % 256 : Nat) : Int) := by
  unfold tw
  rw [if_neg (by omega), ← byt_hi]; rfl
theorem tw_zero (G : Nat) : tw G 0 = byt G := by funext j; unfold tw; rw [if_neg (by omega)]
theorem tw_step (G i : Nat) : upd (tw G i) (32 + i) ((sN (hi G) i % 256 : Nat) : Int) = tw G (i + 1) := by
  funext j
  unfold upd
  by_cases e : j = 32 + i
  · subst e
    rw [if_pos rfl]
    unfold tw
    rw [if_pos (by omega), show 32 + i - 32 = i by omega]
    unfold byt sN cy
    rw [add_byte _ _ _ (Nat.two_pow_pos _)]
  · rw [if_neg e]
    unfold tw
    by_cases h : 32 ≤ j ∧ j < 32 + i
    · rw [if_pos h, if_pos (by omega)]
    · rw [if_neg h, if_neg (by omega)]
theorem tw_end (G : Nat) : arrK .u8 64 (tw G 32) = arrK .u8 64 (byt (lo G + 2 ^ 256 * (hi G + LL))) := by
  have h1 : lo (lo G + 2 ^ 256 * (hi G + LL)) = lo G := by
    show (lo G + 2 ^ 256 * (hi G + LL)) % 2 ^ 256 = lo G
    rw [Nat.add_mul_mod_self_left, Nat.mod_eq_of_lt (lo_lt G)]
  have h2 : hi (lo G + 2 ^ 256 * (hi G + LL)) = hi G + LL := by
    show (lo G + 2 ^ 256 * (hi G + LL)) / 2 ^ 256 = _
    rw [Nat.add_mul_div_left _ _ (by decide), Nat.div_eq_of_lt (lo_lt G), Nat.zero_add]
  refine arrK_congr _ _ _ _ fun j hj => ?_
  unfold tw
  by_cases h : 32 ≤ j
  · rw [if_pos (by omega)]
    have e : j = 32 + (j - 32) := by omega
    have := byt_hi (lo G + 2 ^ 256 * (hi G + LL)) (j - 32)
    rw [h2, ← e] at this
    exact this
  · rw [if_neg (by omega), ← byt_lo (show j < 32 by omega), ← byt_lo (V := lo G + 2 ^ 256 * (hi G + LL)) (show j < 32 by omega), h1]
theorem tw_ok (G i j : Nat) : u8ok (tw G i j) := by unfold tw; split; exact byt_ok _ _; exact byt_ok _ _
theorem wr_u8 {x : Int} (h : u8ok x) : IntKind.i64.wrap x = x := by unfold u8ok at h; rw [IntKind.wrap_i64]; omega
theorem lim_byte (N i : Nat) : IntKind.u8.wrap (sr (lim N (i / 8)) (8 * (i % 8))) = ((N / 2 ^ (8 * i) % 256 : Nat) : Int) := by
  unfold sr lim
  rw [show (((N / 2 ^ (64 * (i / 8)) % 18446744073709551616 : Nat) : Int) / 2 ^ (8 * (i % 8))) = ((N / 2 ^ (64 * (i / 8)) % 18446744073709551616 / 2 ^ (8 * (i % 8)) : Nat) : Int) by rw [Int.natCast_ediv, Int.natCast_pow]; rfl]
  have e1 : (18446744073709551616 : Nat) = 2 ^ (8 * (i % 8)) * (256 * 2 ^ (56 - 8 * (i % 8))) := by
    rw [show (256 : Nat) = 2 ^ 8 by rfl, ← Nat.pow_add, ← Nat.pow_add, show 8 * (i % 8) + (8 + (56 - 8 * (i % 8))) = 64 by omega]
  rw [e1, Nat.mod_mul_right_div_self, Nat.div_div_eq_div_mul, ← Nat.pow_add, show 64 * (i / 8) + 8 * (i % 8) = 8 * i by omega, IntKind.wrap_u8, ← Nat.mod_mul_right_mod (N / 2 ^ (8 * i)) 256 (2 ^ (56 - 8 * (i % 8)))]
  rfl
theorem sN_lt (n i : Nat) : sN n i < 513 := by have := cy_le n i; unfold sN; omega
theorem twin_bad {V G : Nat} {L : List UInt8} (h : hi G < LL) : vfy V L (lo G + 2 ^ 256 * (hi G + LL)) = 16 := by
  unfold vfy
  rw [if_pos]
  show LL ≤ (lo G + 2 ^ 256 * (hi G + LL)) / 2 ^ 256
  rw [Nat.add_mul_div_left _ _ (by decide), Nat.div_eq_of_lt (lo_lt G), Nat.zero_add]
  omega
theorem twin_lt {G : Nat} (h : hi G < LL) : lo G + 2 ^ 256 * (hi G + LL) < 2 ^ (256 + 256) := by
  refine Nat.lt_of_lt_of_eq ?_ (Nat.pow_add 2 256 256).symm
  have h1 := lo_lt G
  have h2 : hi G + LL < 2 ^ 256 := by have h3 : LL + LL < 2 ^ 256 := by decide
                                      omega
  generalize (2 : Nat) ^ 256 = T at *
  have : T * (hi G + LL + 1) ≤ T * T := Nat.mul_le_mul_left T h2
  rw [Nat.mul_add] at this
  omega

theorem signTwins_c (hd : kn.d) (hb : kn.b) (hc : kn.c) (S : Nat) (v : Value) (L M : List UInt8) (hL : L.length ≤ 9223372036854775807) (hM : List.take (min L.length 300) L = M) (hMl : M.length ≤ 300) :
  ∀ w, GA kn w → Sl w v L → Calls Tryd.prog 7 #[.agg (arrK .u8 32 (byt S)), v] w fun e w' => Ret (.bool true) w w' e := by
 obtain ⟨U1, hU1⟩ := exn (sig S M)
 have gU1 : U1 < 2 ^ (256 + 256) := by rw [hU1]; exact sig_lt _ _
 have HU1 := Lib.hid hU1
 clear hU1
 obtain ⟨U2, hU2⟩ := exn (kN S)
 have bU2 : U2 < 2 ^ 256 := by rw [hU2]; exact kN_lt _
 have HU2 := Lib.hid hU2
 clear hU2
 obtain ⟨U3, hU3⟩ := exn (kD S)
 have bU3 : U3 < 2 ^ 256 := by rw [hU3]; exact kD_lt _
 have HU3 := Lib.hid hU3
 clear hU3
 obtain ⟨U4, hU4⟩ := exn (kP S)
 have bU4 : U4 < 2 ^ 256 := by rw [hU4]; exact kP_lt _
 have HU4 := Lib.hid hU4
 clear hU4
 intro w hG hs
 have ow_a := hs
 have off0 : Off [] w w := Off.refl _ _
 go_enter Tryd.func7, Tryd.ntmps7
 go_upto_region 0 with fail
 refine wp_region_lit ?_
 refine Ln ?_ (z := arrK .u8 32 (byt S)) (t := 22)
 intro p2_1 W1 n_t2 hO h_
 have ne_a_t2 := ne_new (Sl.lt ow_a) n_t2
 replace ow_a := Sl.off ow_a hO f0
 replace off0 := off0.step hO i0
 have k_t2 := h_
 clear hO h_ n_t2
 refine Lw ?_ (v := .bool false)
 refine wpL_nil ?_
 go_upto_region 1 with fail
 refine wp_region_lit ?_
 refine Lv ?_
 refine Lv ?_
 refine wpL_len (l := L) ow_a (by rfl) rfl rfl ?_
 (try simp only [Act.put, mA, mB, mC])
 refine Lw ?_ (v := .int .i64 ((min L.length 300 : Nat) : Int)) (hv := by go_simp; (try omega))
 refine wpL_head (n := min L.length 300) ow_a (by omega) (by rfl) rfl rfl rfl ?_
 (try simp only [Act.put, mA, mB, mC])
 intro u14_1 ow_c14 sub_c14 some_c14
 have ne_c14_t2 : sb u14_1 (List.take (min L.length 300) L) ≠ some p2_1 := sub_ne sub_c14 ne_a_t2
 rw [hM] at ow_c14 sub_c14
 (try rw [hM] at ne_c14_t2)
 refine Lv ?_
 refine wpL_nil ?_
 go_upto_region 2 with fail
 refine wp_region_lit ?_
 refine L0A ?_ k_t2
 refine Lv ?_
 refine Lr ?_ (signN_c hd hb HU1.out u14_1 M (by first | omega | (simp only [List.length_append, List.length_take, List.length_cons, List.length_nil, lb_length]; omega)) W1 (GA_ext hG off0.ext) ow_c14)
 intro W2 hO
 replace k_t2 := blk_off k_t2 hO nm0
 replace ow_a := Sl.off ow_a hO f0
 replace ow_c14 := Sl.off ow_c14 hO f0
 replace off0 := off0.step hO i0
 clear hO
 refine Ln ?_ (z := arrK .u8 64 (byt 0)) (t := 30)
 intro p5_3 W3 n_t5 hO h_
 have nq_t2_t5 := bn k_t2 n_t5
 have ne_a_t5 := ne_new (Sl.lt ow_a) n_t5
 have ne_c14_t5 := ne_new (Sl.lt ow_c14) n_t5
 have fb_t5 := fbn off0 n_t5
 replace k_t2 := blk_off k_t2 hO nm0
 replace ow_a := Sl.off ow_a hO f0
 replace ow_c14 := Sl.off ow_c14 hO f0
 replace off0 := off0.step hO i0
 have k_t5 := h_
 clear hO h_ n_t5
 refine LpA ?_ k_t5 (k := .u8) (n := 64) (f := byt U1)
 intro W4 hO h_
 replace k_t5 : Blk W4 p5_3 (arrK .u8 64 (byt U1)) 30 := h_
 clear h_
 replace k_t2 := blk_off k_t2 hO (nm1 nq_t2_t5)
 replace ow_a := Sl.off ow_a hO (f1 ne_a_t5)
 replace ow_c14 := Sl.off ow_c14 hO (f1 ne_c14_t5)
 replace off0 := off0.step hO (i1 fb_t5)
 clear hO
 refine wpL_nil ?_
 go_upto_region 3 with fail
 refine wp_region_lit ?_
 refine Lr ?_ (order_a W4 (GA_ext hG off0.ext).2.2.1)
 intro W5 hO
 replace k_t2 := blk_off k_t2 hO nm0
 replace k_t5 := blk_off k_t5 hO nm0
 replace ow_a := Sl.off ow_a hO f0
 replace ow_c14 := Sl.off ow_c14 hO f0
 replace off0 := off0.step hO i0
 clear hO
 refine Ln ?_ (z := c4 0) (t := 42)
 intro p6_6 W6 n_t6 hO h_
 have nq_t2_t6 := bn k_t2 n_t6
 have nq_t5_t6 := bn k_t5 n_t6
 have ne_a_t6 := ne_new (Sl.lt ow_a) n_t6
 have ne_c14_t6 := ne_new (Sl.lt ow_c14) n_t6
 have fb_t6 := fbn off0 n_t6
 replace k_t2 := blk_off k_t2 hO nm0
 replace k_t5 := blk_off k_t5 hO nm0
 replace ow_a := Sl.off ow_a hO f0
 replace ow_c14 := Sl.off ow_c14 hO f0
 replace off0 := off0.step hO i0
 have k_t6 := h_
 clear hO h_ n_t6
 refine Lp ?_ k_t6 (cells := arrK .u64 4 (lim LL))
 intro W7 hO h_
 replace k_t6 : Blk W7 p6_6 (arrK .u64 4 (lim LL)) 42 := h_
 clear h_
 replace k_t2 := blk_off k_t2 hO (nm1 nq_t2_t6)
 replace k_t5 := blk_off k_t5 hO (nm1 nq_t5_t6)
 replace ow_a := Sl.off ow_a hO (f1 ne_a_t6)
 replace ow_c14 := Sl.off ow_c14 hO (f1 ne_c14_t6)
 replace off0 := off0.step hO (i1 fb_t6)
 clear hO
 refine wpL_nil ?_
 have hn_ : hi U1 < LL := by rw [HU1.out, sig_hi]; exact sT_lt _ _
 go_wp2_with fail
 go_loopw [7, 8] (fun oo ii wr => ∃ (i : Nat), (i ≤ 32) ∧ (oo = .int .i64 ((cy (hi U1) i : Nat) : Int)) ∧ (ii = .int .i64 (i : Int)) ∧ Off [] w wr ∧ Blk wr p2_1 (arrK .u8 32 (byt S)) 22 ∧ Blk wr p5_3 (arrK .u8 64 (tw U1 i)) 30 ∧ Blk wr p6_6 (arrK .u64 4 (lim LL)) 42 ∧ Sl wr v L ∧ Sl wr u14_1 M)
  (fun oo ii _ => (32 - intOf ii).toNat)
 case atStart => exact ⟨0, Nat.zero_le _, (by rw [cy_zero]; rfl), rfl, off0, k_t2, (by rw [tw_zero]; exact k_t5), k_t6, ow_a, ow_c14⟩
 case round =>
  obtain ⟨i, hi32, rfl, rfl, off0, k_t2, k_t5, k_t6, ow_a, ow_c14⟩ := hrel
  obtain ⟨W8, eW_⟩ := wname off0
  subst eW_
  have hcy := cy_le (hi U1) i
  have hsn := sN_lt (hi U1) i
  by_cases h32 : i < 32
  ·
   have _f := h32
   go_upto_region 6 with fail
   refine wp_region_lit ?_
   refine Lv ?_
   refine Lw ?_ (v := .bool true)
   refine wpL_nil ?_
   go_upto_region 8 with fail
   refine Rx 19 ?_
   refine Xv ?_
   refine Xw ?_ (v := .int .i64 (((32 + i : Nat) : Int))) (hv := fun _ _ => by go_simp; (try simp only [IntKind.wrap_i64]); (try omega))
   refine Xw ?_ (v := .pointer (some ⟨p5_3, 0 + (32 + i), none⟩)) (hv := fun _ _ => run_ixarr (m := 64) (by decide) (by omega) Tryd.underlying30 (by kernel_rfl) rfl rfl rfl)
   refine Xc ?_ (v := .int .u8 ((tw U1 i) (32 + i))) (blk_rd k_t5) (hj := by rw [Nat.zero_add]; exact arrK_get _ _ _ _ (by omega))
   refine Xw ?_ (v := .int .i64 (((hi U1 / 2 ^ (8 * i) % 256 : Nat) : Int))) (hv := fun _ _ => by rw [← tw_at U1 i]; go_simp; exact wr_u8 (tw_ok _ _ _))
   refine Xv ?_
   refine Xw ?_ (v := .int .i64 (((i / 8 : Nat) : Int))) (hv := fun _ _ => by exact run_quoN (i := i) (m := 8) (by decide) (by omega) rfl rfl rfl)
   refine Xw ?_ (v := .pointer (some ⟨p6_6, 0 + (i / 8), none⟩)) (hv := fun _ _ => run_ixarr (m := 4) (by decide) (by omega) Tryd.underlying42 (by kernel_rfl) rfl rfl rfl)
   refine Xc ?_ (v := .int .u64 ((lim LL) (i / 8))) (blk_rd k_t6) (hj := by rw [Nat.zero_add]; exact arrK_get _ _ _ _ (by omega))
   refine Xv ?_
   refine Xw ?_ (v := .int .i64 (((i % 8 : Nat) : Int))) (hv := fun _ _ => by exact run_remN (i := i) (m := 8) (by decide) (by omega) rfl rfl rfl)
   refine Xw ?_ (v := .int .i64 (((8 * (i % 8) : Nat) : Int))) (hv := fun _ _ => by go_simp; (try simp only [IntKind.wrap_i64]); (try omega))
   refine Xw ?_ (v := .int .u64 (sr (lim LL (i / 8)) (8 * (i % 8)))) (hv := fun _ _ => by exact run_shr (n := 8 * (i % 8)) (by omega) rfl rfl rfl)
   refine Xw ?_ (v := .int .u8 (((LL / 2 ^ (8 * i) % 256 : Nat) : Int))) (hv := fun _ _ => by rw [← lim_byte LL i]; go_simp; (try rfl))
   refine Xw ?_ (v := .int .i64 (((LL / 2 ^ (8 * i) % 256 : Nat) : Int))) (hv := fun _ _ => by go_simp; (try simp only [IntKind.wrap_i64]); (try omega))
   refine Xw ?_ (v := .int .i64 (((hi U1 / 2 ^ (8 * i) % 256 + LL / 2 ^ (8 * i) % 256 : Nat) : Int))) (hv := fun _ _ => by go_simp; (try simp only [IntKind.wrap_i64]); (try omega))
   refine Xv ?_
   refine Xw ?_ (v := .int .i64 (((sN (hi U1) i : Nat) : Int))) (hv := fun _ _ => by (unfold sN; go_simp; (try simp only [IntKind.wrap_i64]); (try omega)))
   refine Xv ?_
   refine wpX_nil fun W9 hE => ?_
   have hO := off_ext hE
   replace k_t2 := blk_off k_t2 hO nm0
   replace k_t5 := blk_off k_t5 hO nm0
   replace k_t6 := blk_off k_t6 hO nm0
   replace ow_a := Sl.off ow_a hO f0
   replace ow_c14 := Sl.off ow_c14 hO f0
   replace off0 := off0.step hO i0
   clear hO hE
   refine LN ?_
   go_upto_region 9 with fail
   refine wp_region_lit ?_
   refine Lv ?_
   refine Lw ?_ (v := .int .i64 (((32 + i : Nat) : Int))) (hv := by go_simp; (try simp only [IntKind.wrap_i64]); (try omega))
   refine Lv ?_
   refine Lw ?_ (v := .int .u8 (((sN (hi U1) i % 256 : Nat) : Int))) (hv := by go_simp; (try simp only [IntKind.wrap_u8]); (try omega))
   refine Lw ?_ (v := .pointer (some ⟨p5_3, 0 + (32 + i), none⟩)) (hv := run_ixarr (m := 64) (by decide) (by omega) Tryd.underlying30 (by kernel_rfl) rfl rfl rfl)
   refine wpL_put1 (v := .int .u8 (((sN (hi U1) i % 256 : Nat) : Int))) ⟨rfl, rfl⟩ (by rfl) rfl rfl rfl k_t5 (by rw [arrK_size, Nat.zero_add]; omega) (by kernel_rfl) ?_
   (try simp only [Act.put, mA, mB, mC])
   intro W10 hO h_
   rw [Nat.zero_add, arrK_set] at h_
   replace k_t5 : Blk W10 p5_3 (arrK .u8 64 (upd (tw U1 i) (32 + i) (((sN (hi U1) i % 256 : Nat) : Int)))) 30 := h_
   clear h_
   replace k_t2 := blk_off k_t2 hO (nm1 nq_t2_t5)
   replace k_t6 := blk_off k_t6 hO (nm1 nq_t5_t6.symm)
   replace ow_a := Sl.off ow_a hO (f1 ne_a_t5)
   replace ow_c14 := Sl.off ow_c14 hO (f1 ne_c14_t5)
   replace off0 := off0.step hO (i1 fb_t5)
   clear hO
   rw [show arrK .u8 64 (upd (tw U1 i) (32 + i) (((sN (hi U1) i % 256 : Nat) : Int))) = arrK .u8 64 (tw U1 (i + 1)) from congrArg (arrK .u8 64) (tw_step U1 i)] at k_t5
   refine wpL_nil ?_
   go_upto_region 10 with fail
   refine wp_region_lit ?_
   refine Lv ?_
   refine Lw ?_ (v := .int .i64 (((sN (hi U1) i / 256 : Nat) : Int))) (hv := by go_simp; (try simp only [IntKind.wrap_i64]); (try omega))
   refine Lv ?_
   refine wpL_nil ?_
   go_upto_region 7 with fail
   refine wp_region_lit ?_
   refine Lv ?_
   refine Lw ?_ (v := .int .i64 (((i + 1 : Nat) : Int))) (hv := by go_simp; (try simp only [IntKind.wrap_i64]); (try omega))
   refine Lv ?_
   refine wpL_nil ?_
   go_wp2
   go_roundw
   case rel => exact ⟨i + 1, by omega, (by rw [cy_step, Int.natCast_ediv]; rfl), by go_num, off0, k_t2, k_t5, k_t6, ow_a, ow_c14⟩
   case measure => simp [intOf]; omega
  ·
   have _f := h32
   obtain rfl : i = 32 := by omega
   rw [tw_end] at k_t5
   obtain ⟨Tz, hTz⟩ := exn (lo U1 + 2 ^ 256 * (hi U1 + LL))
   have gTz : Tz < 2 ^ (256 + 256) := by rw [hTz]; exact twin_lt hn_
   rw [← hTz] at k_t5
   have HTz := Lib.hid hTz
   clear hTz
   go_upto_region 6 with fail
   refine wp_region_lit ?_
   refine Lv ?_
   refine Lw ?_ (v := .bool false)
   refine wpL_nil ?_
   go_upto_region 11 with fail
   refine Rx 15 ?_
   refine Xf ?_ (fun W hW => seeds_c hd hb W (GA_ext (GA_ext hG off0.ext) hW))
   refine Xv ?_
   refine Xv ?_
   refine Xw ?_ (v := .bool true) (hv := fun _ _ => by (first | (go_simp; done) | (go_simp; rw [cy_end hn_]; rfl) | (go_simp; simp [cy_end hn_])))
   refine Xv ?_
   refine Xv ?_
   refine XlA ?_ k_t2
   refine Xf ?_ (fun W hW => spreadN_c hd hb HU2.out HU3.out HU4.out W (GA_ext (GA_ext hG off0.ext) hW))
   refine Xw ?_ (v := .agg (arrK .u8 32 (byt U4))) (hv := fun _ _ => by kernel_rfl)
   refine Xv ?_
   refine XlA ?_ k_t5
   obtain ⟨U5, hU5⟩ := exn (vfy U4 M Tz)
   have HU5 := Lib.hid hU5
   clear hU5
   have hz_ : (U5 : Int) = 16 := by rw [HU5.out, HTz.out]; exact congrArg Nat.cast (twin_bad hn_)
   refine Xf ?_ (fun W hW => verifyN_c hd hb hc HU5.out bU4 gTz u14_1 M (by first | omega | (simp only [List.length_append, List.length_take, List.length_cons, List.length_nil, lb_length]; omega)) W (GA_ext (GA_ext hG off0.ext) hW) (sl_ext ow_c14 hW))
   refine Xw ?_ (v := .bool true) (hv := fun _ _ => by first | (go_simp; done) | (go_simp; simp only [hz_]; done) | (go_simp; simp only [hz_]; decide))
   refine Xv ?_
   refine Xv ?_
   refine wpX_nil fun W9 hE => ?_
   have hO := off_ext hE
   replace off0 := off0.step hO i0
   clear hO hE
   refine LN ?_
   go_wp2
   exact bodyPost_ret (v := .bool true) (by simp only [results, Tryd.results7]; go_simp) rfl ⟨rfl, off0.ext⟩
end Go.Proofs.YtefpoollmbmkfaaDoor
