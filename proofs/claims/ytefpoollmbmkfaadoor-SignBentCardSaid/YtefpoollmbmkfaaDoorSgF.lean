/- custumallaw08: SignBent. Conditions: the cells of the variables hold their numbers. -/
import Derived.Test.YtefpoollmbmkfaaDoorGc
import Derived.Test.YtefpoollmbmkfaaDoorSgE
namespace Go.Proofs.YtefpoollmbmkfaaDoor
set_option maxHeartbeats 2000000
set_option maxRecDepth 100000
set_option linter.unusedSimpArgs false
set_option linter.unusedVariables false
open Go.RowKit
attribute [local irreducible] wpList
variable {kn : Kn}
open Sc (LL clampF)
section
variable {w : World} {o : Oper} {a : Act} {x y : Operand} {t t' : TypeId} {p q : Int} {i m b : Nat}
theorem run_quo64 (hm : 0 < m) (hi : i < 18446744073709551616) (ho : o.op = .binOp .quo t x y t') (hx : a.eval x = .int .u64 (i : Int)) (hy : a.eval y = .int .u64 (m : Int)) : (execOp a.eval o).run Tryd.prog w = .ok (.value (.int .u64 ((i / m : Nat) : Int))) w := by
  have h0 : ¬ m = 0 := by omega
  have hle := Nat.div_le_self i m
  have h1 : IntKind.u64.wrap ((i : Int) / (m : Int)) = (i : Int) / (m : Int) := by rw [← Int.natCast_ediv]; generalize i / m = q at *; rw [IntKind.wrap_u64]; omega
  simp only [execOp, ho, hx, hy, eqGuard, binOp, Sem.run_bind]
  simp only [Op.intDiv]
  simp [h0, h1, go_sem, Sem.run_bind]
theorem run_rem64 (hm : 0 < m) (hi : i < 18446744073709551616) (ho : o.op = .binOp .rem t x y t') (hx : a.eval x = .int .u64 (i : Int)) (hy : a.eval y = .int .u64 (m : Int)) : (execOp a.eval o).run Tryd.prog w = .ok (.value (.int .u64 ((i % m : Nat) : Int))) w := by
  have h0 : ¬ m = 0 := by omega
  have h1 : (i : Int).tmod (m : Int) = ((i % m : Nat) : Int) := by rw [Int.tmod_eq_emod_of_nonneg (by omega)]; rfl
  have hle := Nat.mod_le i m
  have h2 : IntKind.u64.wrap ((i % m : Nat) : Int) = ((i % m : Nat) : Int) := by rw [IntKind.wrap_u64]; omega
  simp only [execOp, ho, hx, hy, eqGuard, binOp, Sem.run_bind]
  simp only [Op.intDiv]
  simp [h0, h1, h2, go_sem, Sem.run_bind]
theorem run_bit (hb : b < 8) (ho : o.op = .binOp .shl t x y t') (hx : a.eval x = .int .u8 1) (hy : a.eval y = .int .u64 (b : Int)) : (execOp a.eval o).run Tryd.prog w = .ok (.value (.int .u8 ((2 ^ b : Nat) : Int))) w := by
  have h : min ((b : Int)).toNat IntKind.u8.bits = b := by rw [Int.toNat_natCast]; exact Nat.min_eq_left (Nat.le_of_lt hb)
  have hp : 2 ^ b < 256 := Nat.pow_lt_pow_right (by decide) hb (a := 2) (n := 8)
  have h2 : IntKind.u8.wrap (2 ^ b : Int) = (2 ^ b : Int) := by
    rw [show (2 ^ b : Int) = ((2 ^ b : Nat) : Int) by rw [Int.natCast_pow]; rfl]; generalize 2 ^ b = z at *; rw [IntKind.wrap_u8]; omega
  simp only [execOp, ho, hx, hy, eqGuard, binOp, Sem.run_bind]
  simp [Op.shift, h, h2, go_sem, Sem.run_bind]
theorem run_xorU (ho : o.op = .binOp .xor t x y t') (hx : a.eval x = .int .u8 p) (hy : a.eval y = .int .u8 q) : (execOp a.eval o).run Tryd.prog w = .ok (.value (.int .u8 (bits .xor .u8 p q))) w := by
  simp only [execOp, ho, hx, hy]; rfl
theorem run_ltN {n : Nat} {c : Bool} (hc : decide (i < n) = c) (ho : o.op = .binOp .lss t x y t') (hx : a.eval x = .int .i64 (i : Int)) (hy : a.eval y = .int .i64 (n : Int)) : (execOp a.eval o).run Tryd.prog w = .ok (.value (.bool c)) w := by
  have e : decide ((i : Int) < (n : Int)) = c := by rw [← hc]; exact decide_eq_decide.2 Int.ofNat_lt
  simp only [execOp, ho, hx, hy, eqGuard, binOp, Sem.run_bind]
  simp [e, hc, go_sem, Sem.run_bind]
end
theorem exi (n : Int) : ∃ X, X = n := ⟨n, rfl⟩
theorem wr8_ok (n : Int) : u8ok (IntKind.u8.wrap n) := by rw [IntKind.wrap_u8]; unfold u8ok; omega
theorem xor_ok (p q : Int) : u8ok (bits .xor .u8 p q) := wr8_ok _
theorem upd_byt (n V k : Nat) {x : Int} (hx : u8ok x) : ∃ G, G < 2 ^ (8 * n) ∧ arrK .u8 n (upd (byt V) k x) = arrK .u8 n (byt G) := by
  have h : ∀ j, u8ok (upd (byt V) k x j) := fun j => by unfold upd; split; exact hx; exact byt_ok V j
  exact ⟨bval (upd (byt V) k x) n, bval_lt _ h n, arrK_congr _ _ _ _ fun j hj => (byt_bval _ h n j hj).symm⟩
theorem take_snoc (M : List UInt8) (x : UInt8) : List.take ((M ++ [x]).length - 1) (M ++ [x]) = M := by
  rw [List.length_append, List.length_cons, List.length_nil, Nat.add_sub_cancel, List.take_left]

theorem signBent_c (hd : kn.d) (hb : kn.b) (hc : kn.c) (hr : kn.r) (S : Nat) (v : Value) (L M : List UInt8) (C : Int) (hL : L.length ≤ 9223372036854775807) (hM : List.take (min L.length 100) L = M) (hMl : M.length ≤ 100) :
  ∀ w, GA kn w → Sl w v L → Calls Tryd.prog 6 #[.agg (arrK .u8 32 (byt S)), v, .int .i64 C] w fun e w' => Ret (.bool true) w w' e := by
 obtain ⟨U1, hU1⟩ := exn (sig S M)
 have gU1 : U1 < 2 ^ (256 + 256) := by rw [hU1]; exact sig_lt _ _
 have HU1 := Lib.hid hU1
 clear hU1
 obtain ⟨U2, hU2⟩ := exn (kN S)
 have bU2 : U2 < 2 ^ 256 := by rw [hU2]; exact kN_lt _
 have HU2 := Lib.hid hU2
 clear hU2
 obtain ⟨U3, hU3⟩ := exn (kD S)
 have bU3 : U3 < 2 ^ 256 := by rw [hU3]; exact kD_lt _
 have HU3 := Lib.hid hU3
 clear hU3
 obtain ⟨U4, hU4⟩ := exn (kP S)
 have bU4 : U4 < 2 ^ 256 := by rw [hU4]; exact kP_lt _
 have HU4 := Lib.hid hU4
 clear hU4
 intro w hG hs
 obtain ⟨X, hx⟩ : ∃ X : Nat, C % 18446744073709551616 = (X : Int) := ⟨(C % 18446744073709551616).toNat, by omega⟩
 have hx2 : IntKind.wrap .u64 C = (X : Int) := by rw [IntKind.wrap_u64]; exact hx
 have hX : X < 18446744073709551616 := by omega
 clear hx
 obtain ⟨cb, hcb⟩ := exn (2 ^ (X % 8))
 have HC := Lib.hid hcb
 clear hcb
 obtain ⟨k, hkk⟩ := exn (X / 8 % 96)
 have hk96 : k < 96 := by rw [hkk]; exact Nat.mod_lt _ (by decide)
 have HK := Lib.hid hkk
 clear hkk
 have ow_a := hs
 have off0 : Off [] w w := Off.refl _ _
 go_enter Tryd.func6, Tryd.ntmps6
 go_upto_region 0 with fail
 refine wp_region_lit ?_
 refine Ln ?_ (z := arrK .u8 32 (byt S)) (t := 22)
 intro p3_1 W1 n_t3 hO h_
 replace ow_a := Sl.off ow_a hO f0
 replace off0 := off0.step hO i0
 have k_t3 := h_
 clear hO h_ n_t3
 refine Lw ?_ (v := .bool false)
 refine wpL_nil ?_
 go_upto_region 1 with fail
 refine wp_region_lit ?_
 refine LnS ?_ (z := #[]) (t := 5) (n := 0) (c := 0)
 intro p11_2 W2 n_s11 hO h_
 have ne_s11_t3 : Value.ownBlock (.slice (some ⟨p11_2, 0, none⟩) 0 0) ≠ some p3_1 := obn k_t3 n_s11
 have fr_s11 : Fr (Value.ownBlock (.slice (some ⟨p11_2, 0, none⟩) 0 0)) w.heap.size [] := frn off0 n_s11
 replace k_t3 := blk_off k_t3 hO nm0
 replace ow_a := Sl.off ow_a hO f0
 replace off0 := off0.step hO i0
 have ow_s11 : Own W2 (.slice (some ⟨p11_2, 0, none⟩) 0 0) [] := own_blk h_ (by rfl) (by show 0 ≤ maxLen; decide)
 clear hO h_ n_s11
 refine Lv ?_
 refine Lv ?_
 refine wpL_len (l := L) ow_a (by rfl) rfl rfl ?_
 (try simp only [Act.put, mA, mB, mC])
 refine Lw ?_ (v := .int .i64 ((min L.length 100 : Nat) : Int)) (hv := by go_simp; (try omega))
 refine wpL_head (n := min L.length 100) ow_a (by omega) (by rfl) rfl rfl rfl ?_
 (try simp only [Act.put, mA, mB, mC])
 intro u16_2 ow_c16 sub_c16 some_c16
 refine wpL_append (xs := []) (ys := (List.take (min L.length 100) L)) (by rfl) rfl rfl rfl ow_s11 ow_c16 (by first | omega | (simp only [List.length_append, List.length_take, List.length_cons, List.length_nil, lb_length]; omega)) ?_
 (try simp only [Act.put, mA, mB, mC])
 intro v17_3 W3 ow_a17 hO at_a17 nil_a17
 clear nil_a17
 have fr_a17 := own_fr at_a17 fr_s11 off0.size
 replace k_t3 := blk_off k_t3 hO (nmo ne_s11_t3)
 replace off0 := off0.step hO (io fr_s11)
 clear hO at_a17
 rw [List.nil_append, hM] at ow_a17
 clear ow_c16
 refine Lv ?_
 refine wpL_nil ?_
 go_upto_region 2 with fail
 refine wp_region_lit ?_
 refine L0A ?_ k_t3
 refine Lv ?_
 refine Lr ?_ (signN_c hd hb HU1.out v17_3 M (by first | omega | (simp only [List.length_append, List.length_take, List.length_cons, List.length_nil, lb_length]; omega)) W3 (GA_ext hG off0.ext) (ow_a17.sl))
 intro W4 hO
 replace k_t3 := blk_off k_t3 hO nm0
 replace ow_a17 := Own.off ow_a17 hO f0
 replace off0 := off0.step hO i0
 clear hO
 refine Ln ?_ (z := arrK .u8 64 (byt 0)) (t := 30)
 intro p7_5 W5 n_t7 hO h_
 have nq_t3_t7 := bn k_t3 n_t7
 have ne_a17_t7 := ne_new (Own.lt ow_a17) n_t7
 have fb_t7 := fbn off0 n_t7
 replace k_t3 := blk_off k_t3 hO nm0
 replace ow_a17 := Own.off ow_a17 hO f0
 replace off0 := off0.step hO i0
 have k_t7 := h_
 clear hO h_ n_t7
 refine LpA ?_ k_t7 (k := .u8) (n := 64) (f := byt U1)
 intro W6 hO h_
 replace k_t7 : Blk W6 p7_5 (arrK .u8 64 (byt U1)) 30 := h_
 clear h_
 replace k_t3 := blk_off k_t3 hO (nm1 nq_t3_t7)
 replace ow_a17 := Own.off ow_a17 hO (f1 ne_a17_t7)
 replace off0 := off0.step hO (i1 fb_t7)
 clear hO
 refine wpL_nil ?_
 go_upto_region 3 with fail
 refine wp_region_lit ?_
 refine L0A ?_ k_t3
 refine Lr ?_ (spreadN_c hd hb HU2.out HU3.out HU4.out W6 (GA_ext hG off0.ext))
 intro W7 hO
 replace k_t7 := blk_off k_t7 hO nm0
 replace ow_a17 := Own.off ow_a17 hO f0
 replace off0 := off0.step hO i0
 clear hO
 refine Lw ?_ (v := .agg (arrK .u8 32 (byt U4))) (hv := by kernel_rfl)
 refine Ln ?_ (z := arrK .u8 32 (byt 0)) (t := 22)
 intro p8_8 W8 n_t8 hO h_
 have nq_t7_t8 := bn k_t7 n_t8
 have ne_a17_t8 := ne_new (Own.lt ow_a17) n_t8
 have fb_t8 := fbn off0 n_t8
 replace k_t7 := blk_off k_t7 hO nm0
 replace ow_a17 := Own.off ow_a17 hO f0
 replace off0 := off0.step hO i0
 have k_t8 := h_
 clear hO h_ n_t8
 refine LpA ?_ k_t8 (k := .u8) (n := 32) (f := byt U4)
 intro W9 hO h_
 replace k_t8 : Blk W9 p8_8 (arrK .u8 32 (byt U4)) 22 := h_
 clear h_
 replace k_t7 := blk_off k_t7 hO (nm1 nq_t7_t8)
 replace ow_a17 := Own.off ow_a17 hO (f1 ne_a17_t8)
 replace off0 := off0.step hO (i1 fb_t8)
 clear hO
 refine wpL_nil ?_
 go_upto_region 4 with fail
 refine wp_region_lit ?_
 refine Lv ?_
 refine LnS ?_ (z := #[.int .u8 7]) (t := 5) (n := 1) (c := 1)
 intro p25_10 W10 n_s25 hO h_
 replace k_t7 := blk_off k_t7 hO nm0
 replace k_t8 := blk_off k_t8 hO nm0
 replace ow_a17 := Own.off ow_a17 hO f0
 replace off0 := off0.step hO i0
 have ow_s25 : Own W10 (.slice (some ⟨p25_10, 0, none⟩) 1 1) [7] := own_blk h_ (by rfl) (by show 1 ≤ maxLen; decide)
 clear hO h_ n_s25
 refine wpL_append (xs := M) (ys := [7]) (by rfl) rfl rfl rfl ow_a17 (ow_s25.sl) (by first | omega | (simp only [List.length_append, List.length_take, List.length_cons, List.length_nil, lb_length]; omega)) ?_
 (try simp only [Act.put, mA, mB, mC])
 intro v26_11 W11 ow_a26 hO at_a26 nil_a26
 clear nil_a26
 have ne_a26_t7 := own_ne at_a26 ne_a17_t7 (blk_lt k_t7)
 have ne_a26_t8 := own_ne at_a26 ne_a17_t8 (blk_lt k_t8)
 replace k_t7 := blk_off k_t7 hO (nmo ne_a17_t7)
 replace k_t8 := blk_off k_t8 hO (nmo ne_a17_t8)
 replace off0 := off0.step hO (io fr_a17)
 clear hO at_a26
 refine Lv ?_
 refine wpL_nil ?_
 go_upto_region 5 with fail
 refine wp_region_lit ?_
 refine Lv ?_
 refine Lw ?_ (v := .int .u64 ((X : Int))) (hv := by go_simp)
 refine Lw ?_ (v := .int .u64 (((X % 8 : Nat) : Int))) (hv := by exact run_rem64 (i := X) (m := 8) (by decide) hX rfl rfl rfl)
 refine Lw ?_ (v := .int .u8 ((cb : Int))) (hv := by rw [HC.out]; exact run_bit (b := X % 8) (Nat.mod_lt _ (by decide)) rfl rfl rfl)
 refine Lv ?_
 refine wpL_nil ?_
 go_upto_region 6 with fail
 refine wp_region_lit ?_
 refine Lv ?_
 refine Lw ?_ (v := .int .u64 ((X : Int))) (hv := by go_simp)
 refine Lw ?_ (v := .int .u64 (((X / 8 : Nat) : Int))) (hv := by exact run_quo64 (i := X) (m := 8) (by decide) hX rfl rfl rfl)
 refine Lw ?_ (v := .int .u64 ((k : Int))) (hv := by rw [HK.out]; exact run_rem64 (i := X / 8) (m := 96) (by decide) (Nat.lt_of_le_of_lt (Nat.div_le_self _ _) hX) rfl rfl rfl)
 refine Lw ?_ (v := .int .i64 ((k : Int))) (hv := by go_simp; (try simp only [IntKind.wrap_i64]); (try omega))
 refine Lv ?_
 refine wpL_nil ?_
 by_cases hk : k < 64
 ·
  have _f := hk
  go_upto_region 7 with fail
  refine wp_region_lit ?_
  refine Lv ?_
  refine Lw ?_ (v := .bool true) (hv := by exact run_ltN (i := k) (n := 64) (decide_eq_true hk) rfl rfl rfl)
  refine wpL_nil ?_
  go_upto_region 8 with fail
  refine wp_region_lit ?_
  refine Lv ?_
  refine Lw ?_ (v := .pointer (some ⟨p7_5, 0 + k, none⟩)) (hv := run_ixarr (m := 64) (by decide) (by omega) Tryd.underlying30 (by kernel_rfl) rfl rfl rfl)
  refine Lg ?_ k_t7 (v := .int .u8 ((byt U1) k)) (hj := by rw [Nat.zero_add]; exact arrK_get _ _ _ _ (by omega))
  refine Lv ?_
  obtain ⟨xv, hxv⟩ := exi (bits .xor .u8 ((byt U1) k) (cb : Int))
  have oxv : u8ok xv := by rw [hxv]; exact xor_ok _ _
  have HXV := Lib.hid hxv
  clear hxv
  refine Lw ?_ (v := .int .u8 xv) (hv := by rw [HXV.out]; exact run_xorU rfl rfl rfl)
  refine Lw ?_ (v := .pointer (some ⟨p7_5, 0 + k, none⟩)) (hv := run_ixarr (m := 64) (by decide) (by omega) Tryd.underlying30 (by kernel_rfl) rfl rfl rfl)
  refine wpL_put1 (v := .int .u8 xv) ⟨rfl, rfl⟩ (by rfl) rfl rfl rfl k_t7 (by rw [arrK_size, Nat.zero_add]; omega) (by kernel_rfl) ?_
  (try simp only [Act.put, mA, mB, mC])
  intro W12 hO h_
  rw [Nat.zero_add, arrK_set] at h_
  replace k_t7 : Blk W12 p7_5 (arrK .u8 64 (upd (byt U1) k xv)) 30 := h_
  clear h_
  replace k_t8 := blk_off k_t8 hO (nm1 nq_t7_t8.symm)
  replace ow_a26 := Own.off ow_a26 hO (f1 ne_a26_t7)
  replace off0 := off0.step hO (i1 fb_t7)
  clear hO
  obtain ⟨Gz, lGz, eGz⟩ := upd_byt 64 U1 k oxv
  rw [show arrK .u8 64 (upd (byt U1) k xv) = arrK .u8 64 (byt Gz) from eGz] at k_t7
  rw [e512] at lGz
  refine wpL_nil ?_
  go_upto_region 10 with fail
  refine Rx 38 ?_
  refine Xf ?_ (fun W hW => seeds_c hd hb W (GA_ext (GA_ext hG off0.ext) hW))
  refine Xv ?_
  refine XlA ?_ k_t8
  refine Xv ?_
  refine XlA ?_ k_t7
  obtain ⟨U5, hU5⟩ := exn (vfy U4 (M ++ [7]) Gz)
  have HU5 := Lib.hid hU5
  clear hU5
  refine Xf ?_ (fun W hW => verifyN_c hd hb hc HU5.out bU4 lGz v26_11 (M ++ [7]) (by first | omega | (simp only [List.length_append, List.length_take, List.length_cons, List.length_nil, lb_length]; omega)) W (GA_ext (GA_ext hG off0.ext) hW) (sl_ext (ow_a26.sl) hW))
  refine Xw ?_ (v := .slice (some ⟨p8_8, 0, none⟩) 32 32)
  refine wpX_str (l := (lb 32 U4)) (fun W hW => (sl_part (V := U4) (n := 32) (off := 0) (blk_step k_t8 hW) ap0 (by decide) (by decide))) (by rfl) rfl rfl ?_
  (try simp only [Act.put, mA, mB, mC])
  refine Xv ?_
  refine wpX_str (l := (M ++ [7])) (fun W hW => sl_ext (ow_a26.sl) hW) (by rfl) rfl rfl ?_
  (try simp only [Act.put, mA, mB, mC])
  refine Xw ?_ (v := .slice (some ⟨p7_5, 0, none⟩) 64 64)
  refine wpX_str (l := (lb 64 Gz)) (fun W hW => (sl_part (V := Gz) (n := 64) (off := 0) (blk_step k_t7 hW) ap0 (by decide) (by decide))) (by rfl) rfl rfl ?_
  (try simp only [Act.put, mA, mB, mC])
  refine Xf ?_ (fun W hW => rverifyN_c HU5.out bU4 lGz (M ++ [7]) (by first | omega | (simp only [List.length_append, List.length_take, List.length_cons, List.length_nil, lb_length]; omega)) W ((GA_ext (GA_ext hG off0.ext) hW).2.2.2 hr))
  refine Xw ?_ (v := .bool true) (hv := fun _ _ => by first | (go_simp; done) | (go_simp; simp))
  refine Xv ?_
  refine Xv ?_
  refine XlA ?_ k_t8
  refine Xv ?_
  refine Xv ?_
  refine Xw ?_ (v := .int .i64 ((M ++ [7]).length : Int)) (hv := fun W _ => run_lenA (ow_a26.sl) rfl rfl)
  refine Xw ?_ (v := .int .i64 ((((M ++ [7]).length - 1 : Nat) : Int))) (hv := fun _ _ => by go_simp; (try simp only [List.length_append, List.length_cons, List.length_nil, IntKind.wrap_i64]); (try omega))
  obtain ⟨u72_12, hr_, ow_c72, sub_c72, some_c72⟩ := run_head (n := (M ++ [7]).length - 1) (ow_a26.sl) (by omega)
  refine Xw ?_ (v := u72_12) (hv := fun W _ => run_headA rfl rfl rfl (hr_ W))
  clear hr_ sub_c72 some_c72
  rw [take_snoc] at ow_c72
  refine XlA ?_ k_t7
  obtain ⟨U6, hU6⟩ := exn (vfy U4 M Gz)
  have HU6 := Lib.hid hU6
  clear hU6
  refine Xf ?_ (fun W hW => verifyN_c hd hb hc HU6.out bU4 lGz u72_12 M (by first | omega | (simp only [List.length_append, List.length_take, List.length_cons, List.length_nil, lb_length]; omega)) W (GA_ext (GA_ext hG off0.ext) hW) (sl_ext ow_c72 hW))
  refine Xw ?_ (v := .slice (some ⟨p8_8, 0, none⟩) 32 32)
  refine wpX_str (l := (lb 32 U4)) (fun W hW => (sl_part (V := U4) (n := 32) (off := 0) (blk_step k_t8 hW) ap0 (by decide) (by decide))) (by rfl) rfl rfl ?_
  (try simp only [Act.put, mA, mB, mC])
  refine Xv ?_
  refine Xv ?_
  refine Xw ?_ (v := .int .i64 ((M ++ [7]).length : Int)) (hv := fun W _ => run_lenA (ow_a26.sl) rfl rfl)
  refine Xw ?_ (v := .int .i64 ((((M ++ [7]).length - 1 : Nat) : Int))) (hv := fun _ _ => by go_simp; (try simp only [List.length_append, List.length_cons, List.length_nil, IntKind.wrap_i64]); (try omega))
  obtain ⟨u81_12, hr_, ow_c81, sub_c81, some_c81⟩ := run_head (n := (M ++ [7]).length - 1) (ow_a26.sl) (by omega)
  refine Xw ?_ (v := u81_12) (hv := fun W _ => run_headA rfl rfl rfl (hr_ W))
  clear hr_ sub_c81 some_c81
  rw [take_snoc] at ow_c81
  refine wpX_str (l := M) (fun W hW => sl_ext ow_c81 hW) (by rfl) rfl rfl ?_
  (try simp only [Act.put, mA, mB, mC])
  refine Xw ?_ (v := .slice (some ⟨p7_5, 0, none⟩) 64 64)
  refine wpX_str (l := (lb 64 Gz)) (fun W hW => (sl_part (V := Gz) (n := 64) (off := 0) (blk_step k_t7 hW) ap0 (by decide) (by decide))) (by rfl) rfl rfl ?_
  (try simp only [Act.put, mA, mB, mC])
  refine Xf ?_ (fun W hW => rverifyN_c HU6.out bU4 lGz M (by first | omega | (simp only [List.length_append, List.length_take, List.length_cons, List.length_nil, lb_length]; omega)) W ((GA_ext (GA_ext hG off0.ext) hW).2.2.2 hr))
  refine Xw ?_ (v := .bool true) (hv := fun _ _ => by first | (go_simp; done) | (go_simp; simp))
  refine Xv ?_
  refine Xv ?_
  refine wpX_nil fun W13 hE => ?_
  have hO := off_ext hE
  replace k_t7 := blk_off k_t7 hO nm0
  replace k_t8 := blk_off k_t8 hO nm0
  replace ow_a26 := Own.off ow_a26 hO f0
  replace ow_c72 := Sl.off ow_c72 hO f0
  replace ow_c81 := Sl.off ow_c81 hO f0
  replace off0 := off0.step hO i0
  clear hO hE
  refine LN ?_
  go_wp2
  exact bodyPost_ret (v := .bool true) (by simp only [results, Tryd.results6]; go_simp) rfl ⟨rfl, off0.ext⟩
 ·
  have _f := hk
  go_upto_region 7 with fail
  refine wp_region_lit ?_
  refine Lv ?_
  refine Lw ?_ (v := .bool false) (hv := by exact run_ltN (i := k) (n := 64) (decide_eq_false hk) rfl rfl rfl)
  refine wpL_nil ?_
  go_upto_region 9 with fail
  refine wp_region_lit ?_
  refine Lv ?_
  refine Lw ?_ (v := .int .i64 (((k - 64 : Nat) : Int))) (hv := by go_simp; (try simp only [IntKind.wrap_i64]); (try omega))
  refine Lw ?_ (v := .pointer (some ⟨p8_8, 0 + (k - 64), none⟩)) (hv := run_ixarr (m := 32) (by decide) (by omega) Tryd.underlying22 (by kernel_rfl) rfl rfl rfl)
  refine Lg ?_ k_t8 (v := .int .u8 ((byt U4) (k - 64))) (hj := by rw [Nat.zero_add]; exact arrK_get _ _ _ _ (by omega))
  refine Lv ?_
  obtain ⟨xv, hxv⟩ := exi (bits .xor .u8 ((byt U4) (k - 64)) (cb : Int))
  have oxv : u8ok xv := by rw [hxv]; exact xor_ok _ _
  have HXV := Lib.hid hxv
  clear hxv
  refine Lw ?_ (v := .int .u8 xv) (hv := by rw [HXV.out]; exact run_xorU rfl rfl rfl)
  refine Lw ?_ (v := .pointer (some ⟨p8_8, 0 + (k - 64), none⟩)) (hv := run_ixarr (m := 32) (by decide) (by omega) Tryd.underlying22 (by kernel_rfl) rfl rfl rfl)
  refine wpL_put1 (v := .int .u8 xv) ⟨rfl, rfl⟩ (by rfl) rfl rfl rfl k_t8 (by rw [arrK_size, Nat.zero_add]; omega) (by kernel_rfl) ?_
  (try simp only [Act.put, mA, mB, mC])
  intro W12 hO h_
  rw [Nat.zero_add, arrK_set] at h_
  replace k_t8 : Blk W12 p8_8 (arrK .u8 32 (upd (byt U4) (k - 64) xv)) 22 := h_
  clear h_
  replace k_t7 := blk_off k_t7 hO (nm1 nq_t7_t8)
  replace ow_a26 := Own.off ow_a26 hO (f1 ne_a26_t8)
  replace off0 := off0.step hO (i1 fb_t8)
  clear hO
  obtain ⟨Pz, lPz, ePz⟩ := upd_byt 32 U4 (k - 64) oxv
  rw [show arrK .u8 32 (upd (byt U4) (k - 64) xv) = arrK .u8 32 (byt Pz) from ePz] at k_t8
  have bPz : Pz < 2 ^ 256 := lPz
  refine wpL_nil ?_
  go_upto_region 10 with fail
  refine Rx 38 ?_
  refine Xf ?_ (fun W hW => seeds_c hd hb W (GA_ext (GA_ext hG off0.ext) hW))
  refine Xv ?_
  refine XlA ?_ k_t8
  refine Xv ?_
  refine XlA ?_ k_t7
  obtain ⟨U7, hU7⟩ := exn (vfy Pz (M ++ [7]) U1)
  have HU7 := Lib.hid hU7
  clear hU7
  refine Xf ?_ (fun W hW => verifyN_c hd hb hc HU7.out bPz gU1 v26_11 (M ++ [7]) (by first | omega | (simp only [List.length_append, List.length_take, List.length_cons, List.length_nil, lb_length]; omega)) W (GA_ext (GA_ext hG off0.ext) hW) (sl_ext (ow_a26.sl) hW))
  refine Xw ?_ (v := .slice (some ⟨p8_8, 0, none⟩) 32 32)
  refine wpX_str (l := (lb 32 Pz)) (fun W hW => (sl_part (V := Pz) (n := 32) (off := 0) (blk_step k_t8 hW) ap0 (by decide) (by decide))) (by rfl) rfl rfl ?_
  (try simp only [Act.put, mA, mB, mC])
  refine Xv ?_
  refine wpX_str (l := (M ++ [7])) (fun W hW => sl_ext (ow_a26.sl) hW) (by rfl) rfl rfl ?_
  (try simp only [Act.put, mA, mB, mC])
  refine Xw ?_ (v := .slice (some ⟨p7_5, 0, none⟩) 64 64)
  refine wpX_str (l := (lb 64 U1)) (fun W hW => (sl_part (V := U1) (n := 64) (off := 0) (blk_step k_t7 hW) ap0 (by decide) (by decide))) (by rfl) rfl rfl ?_
  (try simp only [Act.put, mA, mB, mC])
  refine Xf ?_ (fun W hW => rverifyN_c HU7.out bPz gU1 (M ++ [7]) (by first | omega | (simp only [List.length_append, List.length_take, List.length_cons, List.length_nil, lb_length]; omega)) W ((GA_ext (GA_ext hG off0.ext) hW).2.2.2 hr))
  refine Xw ?_ (v := .bool true) (hv := fun _ _ => by first | (go_simp; done) | (go_simp; simp))
  refine Xv ?_
  refine Xv ?_
  refine XlA ?_ k_t8
  refine Xv ?_
  refine Xv ?_
  refine Xw ?_ (v := .int .i64 ((M ++ [7]).length : Int)) (hv := fun W _ => run_lenA (ow_a26.sl) rfl rfl)
  refine Xw ?_ (v := .int .i64 ((((M ++ [7]).length - 1 : Nat) : Int))) (hv := fun _ _ => by go_simp; (try simp only [List.length_append, List.length_cons, List.length_nil, IntKind.wrap_i64]); (try omega))
  obtain ⟨u72_12, hr_, ow_c72, sub_c72, some_c72⟩ := run_head (n := (M ++ [7]).length - 1) (ow_a26.sl) (by omega)
  refine Xw ?_ (v := u72_12) (hv := fun W _ => run_headA rfl rfl rfl (hr_ W))
  clear hr_ sub_c72 some_c72
  rw [take_snoc] at ow_c72
  refine XlA ?_ k_t7
  obtain ⟨U8, hU8⟩ := exn (vfy Pz M U1)
  have HU8 := Lib.hid hU8
  clear hU8
  refine Xf ?_ (fun W hW => verifyN_c hd hb hc HU8.out bPz gU1 u72_12 M (by first | omega | (simp only [List.length_append, List.length_take, List.length_cons, List.length_nil, lb_length]; omega)) W (GA_ext (GA_ext hG off0.ext) hW) (sl_ext ow_c72 hW))
  refine Xw ?_ (v := .slice (some ⟨p8_8, 0, none⟩) 32 32)
  refine wpX_str (l := (lb 32 Pz)) (fun W hW => (sl_part (V := Pz) (n := 32) (off := 0) (blk_step k_t8 hW) ap0 (by decide) (by decide))) (by rfl) rfl rfl ?_
  (try simp only [Act.put, mA, mB, mC])
  refine Xv ?_
  refine Xv ?_
  refine Xw ?_ (v := .int .i64 ((M ++ [7]).length : Int)) (hv := fun W _ => run_lenA (ow_a26.sl) rfl rfl)
  refine Xw ?_ (v := .int .i64 ((((M ++ [7]).length - 1 : Nat) : Int))) (hv := fun _ _ => by go_simp; (try simp only [List.length_append, List.length_cons, List.length_nil, IntKind.wrap_i64]); (try omega))
  obtain ⟨u81_12, hr_, ow_c81, sub_c81, some_c81⟩ := run_head (n := (M ++ [7]).length - 1) (ow_a26.sl) (by omega)
  refine Xw ?_ (v := u81_12) (hv := fun W _ => run_headA rfl rfl rfl (hr_ W))
  clear hr_ sub_c81 some_c81
  rw [take_snoc] at ow_c81
  refine wpX_str (l := M) (fun W hW => sl_ext ow_c81 hW) (by rfl) rfl rfl ?_
  (try simp only [Act.put, mA, mB, mC])
  refine Xw ?_ (v := .slice (some ⟨p7_5, 0, none⟩) 64 64)
  refine wpX_str (l := (lb 64 U1)) (fun W hW => (sl_part (V := U1) (n := 64) (off := 0) (blk_step k_t7 hW) ap0 (by decide) (by decide))) (by rfl) rfl rfl ?_
  (try simp only [Act.put, mA, mB, mC])
  refine Xf ?_ (fun W hW => rverifyN_c HU8.out bPz gU1 M (by first | omega | (simp only [List.length_append, List.length_take, List.length_cons, List.length_nil, lb_length]; omega)) W ((GA_ext (GA_ext hG off0.ext) hW).2.2.2 hr))
  refine Xw ?_ (v := .bool true) (hv := fun _ _ => by first | (go_simp; done) | (go_simp; simp))
  refine Xv ?_
  refine Xv ?_
  refine wpX_nil fun W13 hE => ?_
  have hO := off_ext hE
  replace off0 := off0.step hO i0
  clear hO hE
  refine LN ?_
  go_wp2
  exact bodyPost_ret (v := .bool true) (by simp only [results, Tryd.results6]; go_simp) rfl ⟨rfl, off0.ext⟩
end Go.Proofs.YtefpoollmbmkfaaDoor
