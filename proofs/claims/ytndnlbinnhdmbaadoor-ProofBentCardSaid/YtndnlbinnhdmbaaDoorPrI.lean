/- ProofBent. Conditions: the tables hold their numbers; keys and values have 256 bits. -/
import Derived.Test.YtndnlbinnhdmbaaDoorJ29
set_option linter.unusedSimpArgs false
set_option linter.unusedVariables false
namespace Go.Proofs.YtndnlbinnhdmbaaDoor
set_option maxHeartbeats 3000000
set_option maxRecDepth 100000
open Go.RowKit
attribute [local irreducible] wpList wpTr wpX
set_option linter.unusedSimpArgs false
/-- a byte of 32 turned -/
theorem byt_put (a j : Nat) (v : Int) (hv : u8ok v) : ∃ a2, a2 < 2 ^ 256 ∧ (arrK .u8 32 (byt a)).setIfInBounds j (.int .u8 v) = arrK .u8 32 (byt a2) := by
 have hg : ∀ i, u8ok (upd (byt a) j v i) := fun i => by
  unfold upd
  split
  ·
   exact hv
  ·
   exact byt_ok a i
 refine ⟨bval (upd (byt a) j v) 32, bval_lt _ hg 32, ?_⟩
 rw [arrK_set]
 exact arrK_congr _ _ _ _ fun i hi => (byt_bval _ hg 32 i hi).symm
theorem b32_put {a j a2 : Nat} {v : Value} (h : (arrK .u8 32 (byt a)).setIfInBounds j v = arrK .u8 32 (byt a2)) : (b32l a).set j v = b32l a2 := by
 unfold b32l; rw [← h, Array.toList_setIfInBounds]
theorem row_put {ss : List Nat} {i j a a2 : Nat} {v : Value} (h : (arrK .u8 32 (byt a)).setIfInBounds j v = arrK .u8 32 (byt a2)) : (ss.map b32l).set i ((b32l a).set j v) = (ss.set i a2).map b32l := by
 rw [b32_put h, List.map_set]
section
variable {s : Value} {th : Bool} {a x j a2 : Nat} {v : Value}
theorem pf_list : (pfc s th a x).toList = [s, .bool th] ++ (b32l a ++ b32l x) := by unfold pfc lf b32l; simp
theorem b32l_len (a : Nat) : (b32l a).length = 32 := by unfold b32l; rw [Array.length_toList, arrK_size]
theorem pf_puta (hj : j < 32) (h : (arrK .u8 32 (byt a)).setIfInBounds j v = arrK .u8 32 (byt a2)) : (pfc s th a x).setIfInBounds (2 + j) v = pfc s th a2 x := by
 apply Array.toList_inj.1
 rw [Array.toList_setIfInBounds, pf_list, pf_list, List.set_append_right _ _ (by simp), show 2 + j - [s, Value.bool th].length = j by simp, List.set_append_left _ _ (by rw [b32l_len]; exact hj), b32_put h]
theorem pf_putx (hj : j < 32) (h : (arrK .u8 32 (byt x)).setIfInBounds j v = arrK .u8 32 (byt a2)) : (pfc s th a x).setIfInBounds (34 + j) v = pfc s th a a2 := by
 apply Array.toList_inj.1
 rw [Array.toList_setIfInBounds, pf_list, pf_list, List.set_append_right _ _ (by simp; omega), show 34 + j - [s, Value.bool th].length = 32 + j by simp; omega, List.set_append_right _ _ (by rw [b32l_len]; omega), b32l_len, show 32 + j - 32 = j by omega, b32_put h]
theorem pf_putt {b : Bool} : (pfc s th a x).setIfInBounds 1 (.bool b) = pfc s b a x := by
 apply Array.toList_inj.1
 rw [Array.toList_setIfInBounds, pf_list, pf_list]; rfl
end
theorem xor_ok (a b : Int) : u8ok (bits .xor .u8 a b) := by
 have h := bits_within .xor .u8 a b
 have h1 : IntKind.min .u8 = 0 := rfl
 have h2 : IntKind.max .u8 = 255 := rfl
 unfold u8ok; omega
section
variable {W : World} {o : Oper} {a : Act} {x y : Operand} {t t' : TypeId}
theorem run_xorB {p q : Int} (ho : o.op = .binOp .xor 5 x y t') (hx : a.eval x = .int .u8 p) (hy : a.eval y = .int .u8 q) : (execOp a.eval o).run Tryd.prog W = .ok (.value (.int .u8 (bits .xor .u8 p q))) W := by
 simp only [execOp, ho, hx, hy, eqGuard, binOp, Sem.run_bind]
 simp [go_sem, Sem.run_bind]
theorem run_shlb {n : Nat} (ho : o.op = .binOp .shl 5 x y t') (hx : a.eval x = .int .u8 1) (hy : a.eval y = .int .u64 (n : Int)) (hn : n < 8) : (execOp a.eval o).run Tryd.prog W = .ok (.value (.int .u8 (IntKind.wrap .u8 (2 ^ n)))) W := by
 have h : min ((n : Int)).toNat IntKind.u8.bits = n := by rw [Int.toNat_natCast]; exact Nat.min_eq_left (by show n ≤ 8; omega)
 simp only [execOp, ho, hx, hy, eqGuard, binOp, Sem.run_bind]
 simp [Op.shift, h, go_sem, Sem.run_bind]
end
attribute [local irreducible] hs4 sE sL sN lb tA chk

theorem bent_or (n l : Nat) : n < 32 * l ∨ (32 * l ≤ n ∧ n < 32 * l + 32) ∨ (32 * l + 32 ≤ n ∧ n < 32 * l + 64) ∨ 32 * l + 64 ≤ n := by omega
theorem proofBent_L {q : Prop} (hr : q) {ls L : List Lf} (hE8 : ls.take 8 = L) (hL : ok256 L) (hLl : L.length ≤ 8) {k : Nat} (hk : k < 2 ^ 256) (at_ : Int) {u0 : Value} (w : World) (hG : GT q w) (hl : RR 64 w u0 (ls.map lfl)) :
  Calls Tryd.prog 10 #[u0, .agg (arrK .u8 32 (byt k)), .int .i64 at_] w fun e w' => Ret (.bool true) w w' e := by
 have hLm : L.length ≤ 1000 := by omega
 obtain ⟨ss, hss⟩ : ∃ ss, bsd (ofT L) k 0 = ss := ⟨_, rfl⟩
 have hsl : ss.length ≤ 256 := by rw [← hss]; exact bsd_ofT_le hL
 obtain ⟨ea, ex, et, hE⟩ : ∃ a x t, endR (wayE (ofT L) k 0) = (a, x, t) := ⟨_, _, _, rfl⟩
 obtain ⟨hea, hex⟩ : ea < 2 ^ 256 ∧ ex < 2 ^ 256 := by have h_ := end_bd (k := k) hL; rw [hE] at h_; exact h_
 obtain ⟨n, hn⟩ : ∃ n : Nat, (n : Int) = at_ % 18446744073709551616 / 8 % (32 * (ss.length : Int) + 65) := ⟨(at_ % 18446744073709551616 / 8 % (32 * (ss.length : Int) + 65)).toNat, Int.toNat_of_nonneg (Int.emod_nonneg _ (by omega))⟩
 have hnl : n < 32 * ss.length + 65 := by have h_ := Int.emod_lt_of_pos (at_ % 18446744073709551616 / 8) (show (0 : Int) < 32 * (ss.length : Int) + 65 by omega); omega
 have Hn := Lib.hid hn
 clear hn
 obtain ⟨m, hm⟩ : ∃ m : Nat, (m : Int) = at_ % 18446744073709551616 % 8 := ⟨(at_ % 18446744073709551616 % 8).toNat, Int.toNat_of_nonneg (by omega)⟩
 have hm8 : m < 8 := by omega
 have Hm := Lib.hid hm
 clear hm
 have hS := SH.nil [] w
 go_enter Tryd.func10, Tryd.ntmps10
 go_upto_region 0 with fail
 refine RL hS ?_
 clear hS
 refine MN (z := arrK .u8 32 (byt k)) (t := 28) ?_
 intro p4_1
 refine MW ?_ (v := .bool false)
 refine MZ fun W hS => ?_
 go_upto_region 1 with fail
 refine RL hS ?_
 clear hS
 refine MV ?_
 refine ME (fun W hS => rcall (ls := L) hS ((by rw [← hE8]; exact leaves8_c W (hl.ext hS.ext))) rfl) ?_
 intro u_fw2
 refine ME (fun W hS => tcall (T := (ofT L)) hS (of_r hL hLm W (GT_ext hG hS.ext) (hS.row (i := 0) rfl).rr) rfl) ?_
 intro u_tof3
 refine MV ?_
 refine MZ fun W hS => ?_
 go_upto_region 2 with fail
 refine RL hS ?_
 clear hS
 refine MV ?_
 refine ML 2 ?_
 refine ME (V := fun v => .agg (pfc v et ea ex)) (fun W hS => pcall (ss := ss) hS ((by have h_ := prove_c (k := k) (of_tsz1 hLm) W (GT_ext hG hS.ext) (hS.tt (i := 0) rfl); rw [hE, hss] at h_; exact h_)) rfl) ?_
 intro pv_4
 refine MFact (fun W hS => Row.form (ls := ss) (f := b32l) (hS.row (i := 0) rfl)) ?_
 rintro ⟨A_5, c_5, rfl⟩
 refine MN (z := pfc (.slice none 0 0) false 0 0) (t := 69) ?_
 intro p8_6
 refine MR 0 ?_ (hz := by rw [pf_size]; kernel_rfl) (hs := by first | rw [pf_size, pf_size] | rw [pf_size] | kernel_rfl) (h1 := (pf_one rfl))
 refine MZ fun W hS => ?_
 go_upto_region 3 with fail
 refine RL hS ?_
 clear hS
 refine MC (v := .bool true) (fun W hS => proofs_c W (GT_ext hG hS.ext)) ?_
 refine MW ?_ (v := .bool false)
 refine MZ fun W hS => ?_
 go_upto_region 5 with fail
 refine RL hS ?_
 clear hS
 refine MV ?_
 refine MW ?_ (v := .int .u64 (at_ % 18446744073709551616)) (hv := by intro W; have h0_ : (0 : Int) ≤ at_ % 18446744073709551616 := (by omega); go_simp; (try simp only [IntKind.wrap_u64, IntKind.wrap_i64]); (try rw [Int.tmod_eq_emod_of_nonneg (by omega)]); (try rw [Int.tdiv_eq_ediv_of_nonneg (by omega)]); (try rw [if_neg (by omega)]); (try omega))
 refine MW ?_ (v := .int .u64 ((at_ % 18446744073709551616) / 8)) (hv := by intro W; have h0_ : (0 : Int) ≤ at_ % 18446744073709551616 := (by omega); go_simp; (try simp only [IntKind.wrap_u64, IntKind.wrap_i64]); (try rw [Int.tmod_eq_emod_of_nonneg (by omega)]); (try rw [Int.tdiv_eq_ediv_of_nonneg (by omega)]); (try rw [if_neg (by omega)]); (try omega))
 refine MV ?_
 refine MG 0 ?_ (v := (.slice A_5 ss.length c_5)) (hj := pf_s)
 refine MF (v := .int .i64 ((List.map b32l ss).length : Int)) (fun W hS => run_lenR (hS.row (i := 1) rfl) rfl rfl Tryd.underlying58) ?_
 refine MW ?_ (v := .int .i64 ((32 * ss.length : Nat) : Int)) (hv := by intro W; have h0_ : (0 : Int) ≤ at_ % 18446744073709551616 := (by omega); go_simp; (try simp only [IntKind.wrap_u64, IntKind.wrap_i64]); (try rw [Int.tmod_eq_emod_of_nonneg (by omega)]); (try rw [Int.tdiv_eq_ediv_of_nonneg (by omega)]); (try rw [if_neg (by omega)]); (try omega))
 refine MW ?_ (v := .int .i64 ((32 * ss.length + 65 : Nat) : Int)) (hv := by intro W; have h0_ : (0 : Int) ≤ at_ % 18446744073709551616 := (by omega); go_simp; (try simp only [IntKind.wrap_u64, IntKind.wrap_i64]); (try rw [Int.tmod_eq_emod_of_nonneg (by omega)]); (try rw [Int.tdiv_eq_ediv_of_nonneg (by omega)]); (try rw [if_neg (by omega)]); (try omega))
 refine MW ?_ (v := .int .u64 ((32 * ss.length + 65 : Nat) : Int)) (hv := by intro W; have h0_ : (0 : Int) ≤ at_ % 18446744073709551616 := (by omega); go_simp; (try simp only [IntKind.wrap_u64, IntKind.wrap_i64]); (try rw [Int.tmod_eq_emod_of_nonneg (by omega)]); (try rw [Int.tdiv_eq_ediv_of_nonneg (by omega)]); (try rw [if_neg (by omega)]); (try omega))
 refine MW ?_ (v := .int .u64 (n : Int)) (hv := by intro W; have h0_ : (0 : Int) ≤ at_ % 18446744073709551616 := (by omega); go_simp; (try simp only [IntKind.wrap_u64, IntKind.wrap_i64]); (try rw [Int.tmod_eq_emod_of_nonneg (by omega)]); (try rw [Int.tdiv_eq_ediv_of_nonneg (by omega)]); (try rw [if_neg (by omega)]); (try rw [← Hn.out]))
 refine MW ?_ (v := .int .i64 ((n : Nat) : Int)) (hv := by intro W; have h0_ : (0 : Int) ≤ at_ % 18446744073709551616 := (by omega); go_simp; (try simp only [IntKind.wrap_u64, IntKind.wrap_i64]); (try rw [Int.tmod_eq_emod_of_nonneg (by omega)]); (try rw [Int.tdiv_eq_ediv_of_nonneg (by omega)]); (try rw [if_neg (by omega)]); (try omega))
 refine MV ?_
 refine MZ fun W hS => ?_
 go_upto_region 6 with fail
 refine RL hS ?_
 clear hS
 refine MV ?_
 refine MW ?_ (v := .int .u64 (at_ % 18446744073709551616)) (hv := by intro W; have h0_ : (0 : Int) ≤ at_ % 18446744073709551616 := (by omega); go_simp; (try simp only [IntKind.wrap_u64, IntKind.wrap_i64]); (try rw [Int.tmod_eq_emod_of_nonneg (by omega)]); (try rw [Int.tdiv_eq_ediv_of_nonneg (by omega)]); (try rw [if_neg (by omega)]); (try omega))
 refine MW ?_ (v := .int .u64 (m : Int)) (hv := by intro W; have h0_ : (0 : Int) ≤ at_ % 18446744073709551616 := (by omega); go_simp; (try simp only [IntKind.wrap_u64, IntKind.wrap_i64]); (try rw [Int.tmod_eq_emod_of_nonneg (by omega)]); (try rw [Int.tdiv_eq_ediv_of_nonneg (by omega)]); (try rw [if_neg (by omega)]); (try rw [← Hm.out]))
 refine MW ?_ (v := .int .u8 (IntKind.wrap .u8 (2 ^ m))) (hv := by intro W; exact run_shlb rfl rfl rfl hm8)
 refine MV ?_
 refine MZ fun W hS => ?_
 rcases bent_or n ss.length with h1 | h1 | h1 | h1
 ·
  have _f := True.intro
  obtain ⟨y, yh⟩ : ∃ y, ss[n / 32]? = some y := ⟨_, List.getElem?_eq_getElem (by omega)⟩
  obtain ⟨y2, hy2, ey2⟩ := byt_put y (n % 32) (bits .xor .u8 (byt y (n % 32)) (IntKind.wrap .u8 (2 ^ m))) (xor_ok _ _)
  go_upto_region 8 with fail
  refine RL hS ?_
  clear hS
  refine MV ?_
  refine MV ?_
  refine MG 0 ?_ (v := (.slice A_5 ss.length c_5)) (hj := pf_s)
  refine MF (v := .int .i64 ((List.map b32l ss).length : Int)) (fun W hS => run_lenR (hS.row (i := 1) rfl) rfl rfl Tryd.underlying58) ?_
  refine MW ?_ (v := .int .i64 ((32 * ss.length : Nat) : Int)) (hv := by intro W; have h0_ : (0 : Int) ≤ at_ % 18446744073709551616 := (by omega); go_simp; (try simp only [IntKind.wrap_u64, IntKind.wrap_i64]); (try rw [Int.tmod_eq_emod_of_nonneg (by omega)]); (try rw [Int.tdiv_eq_ediv_of_nonneg (by omega)]); (try rw [if_neg (by omega)]); (try omega))
  refine MW ?_ (v := .bool true) (hv := by intro W; go_simp; (try omega))
  refine MW ?_ (v := .bool true)
  refine MZ fun W hS => ?_
  go_upto_region 9 with fail
  refine RX 13 hS ?_
  clear hS
  refine MV ?_
  refine MG 0 ?_ (v := (.slice A_5 ss.length c_5)) (hj := pf_s)
  refine MV ?_
  refine MW ?_ (v := .int .i64 ((n / 32 : Nat) : Int)) (hv := by intro W; have h0_ : (0 : Int) ≤ at_ % 18446744073709551616 := (by omega); go_simp; (try simp only [IntKind.wrap_u64, IntKind.wrap_i64]); (try rw [Int.tmod_eq_emod_of_nonneg (by omega)]); (try rw [Int.tdiv_eq_ediv_of_nonneg (by omega)]); (try rw [if_neg (by omega)]); (try omega))
  refine MV ?_
  refine MW ?_ (v := .int .i64 ((n % 32 : Nat) : Int)) (hv := by intro W; have h0_ : (0 : Int) ≤ at_ % 18446744073709551616 := (by omega); go_simp; (try simp only [IntKind.wrap_u64, IntKind.wrap_i64]); (try rw [Int.tmod_eq_emod_of_nonneg (by omega)]); (try rw [Int.tdiv_eq_ediv_of_nonneg (by omega)]); (try rw [if_neg (by omega)]); (try omega))
  refine MI 1 (n / 32) (e := (b32l y)) (by rw [List.getElem?_map, yh]; rfl) ?_
  intro gb58_7 _ hv58_7
  refine MW ?_ (v := .pointer (some ⟨gb58_7, n / 32 * 32 + n % 32, none⟩)) (hv := fun _ => run_ixarr (m := 32) (by decide) (by omega) Tryd.underlying22 (by kernel_rfl) rfl rfl rfl)
  refine MF (v := .int .u8 (byt y (n % 32))) (fun W hS => run_at rfl rfl (row_cell (hS.row (i := 1) rfl) hv58_7.out (by rw [List.getElem?_map, yh]; rfl) (n % 32) _ (by unfold b32l; rw [Array.getElem?_toList]; exact arrK_get _ _ _ _ (by omega))) (by kernel_rfl)) ?_
  refine MV ?_
  refine MW ?_ (v := .int .u8 (bits .xor .u8 (byt y (n % 32)) (IntKind.wrap .u8 (2 ^ m)))) (hv := by intro W; exact run_xorB rfl rfl rfl)
  refine MI 1 (n / 32) (e := (b32l y)) (by rw [List.getElem?_map, yh]; rfl) ?_
  intro gb63_8 _ hv63_8
  refine MW ?_ (v := .pointer (some ⟨gb63_8, n / 32 * 32 + n % 32, none⟩)) (hv := fun _ => run_ixarr (m := 32) (by decide) (by omega) Tryd.underlying22 (by kernel_rfl) rfl rfl rfl)
  refine MZt ?_
  refine MPe 1 (k := 32) (j := n / 32) (q := n % 32) (e := b32l y) (u := .int .u8 (bits .xor .u8 (byt y (n % 32)) (IntKind.wrap .u8 (2 ^ m)))) (by rw [List.getElem?_map, yh]; rfl) hv63_8.out (show n % 32 < 32 by omega) ?_ (hH := by rw [row_put ey2]; first | done | exact rfl)
  refine MZn fun W hS => ?_
  go_upto_region 14 with fail
  refine RL hS ?_
  clear hS
  refine MV ?_
  obtain ⟨U1, hU1⟩ := exn (rs (ofT L))
  have HU1 := Lib.hid hU1
  clear hU1
  refine MC (v := .agg (arrK .u8 32 (byt U1))) (fun W hS => (by rw [HU1.out]; exact root_c W (GT_ext hG hS.ext) (hS.tt (i := 2) rfl))) ?_
  refine MN (z := arrK .u8 32 (byt 0)) (t := 22) ?_
  intro p11_9
  refine MR 0 ?_ 
  refine MZ fun W hS => ?_
  ·
   have _f := True.intro
   obtain ⟨c0, c1, c2, hc⟩ : ∃ u v z, chk U1 k (ss.set (n / 32) y2) et ea ex = (u, v, z) := ⟨_, _, _, rfl⟩
   have HC := Lib.hid hc
   clear hc
   go_upto_region 15 with fail
   refine RL hS ?_
   clear hS
   refine ML 0 ?_
   refine ML 5 ?_
   refine ML 1 ?_ (hs := by rw [pf_size]; kernel_rfl)
   refine MC (v := .tuple #[.agg (arrK .u8 32 (byt c0)), .bool c1, .int .i64 (c2 : Int)]) (fun W hS => (by have h_ := check_c (R := U1) (k := k) (th := et) (x := ex) (by rw [HU1.out]; exact rs_lt _) hk hea (by first | omega | (rw [List.length_set]; omega)) W (GT_ext hG hS.ext) (hS.row (i := 2) rfl).rr; rw [HC.out] at h_; exact h_)) ?_
   refine MV ?_
   refine MV ?_
   refine MW ?_ (v := .bool c1)
   refine MV ?_
   refine MN (z := arrK .u8 32 (byt 0)) (t := 22) ?_
   intro p12_10
   refine MR 0 ?_ 
   refine MW ?_ (v := .bool c1)
   refine MV ?_
   refine MZ fun W hS => ?_
   go_upto_region 16 with fail
   refine RJ (R := fun a_ w_ => ∃ (j16_0 : Nat), a_ = { tmps := #[u0, .agg (arrK .u8 32 (byt k)), .int .i64 at_, undef, .pointer (some ⟨p4_1, 0, none⟩), undef, .bool false, u_tof3, .pointer (some ⟨p8_6, 0, none⟩), .int .i64 ((n : Nat) : Int), .int .u8 (IntKind.wrap .u8 (2 ^ m)), .pointer (some ⟨p11_9, 0, none⟩), .pointer (some ⟨p12_10, 0, none⟩), .bool c1, .int .i64 (c2 : Int), .pointer (some ⟨j16_0, 0, none⟩), .bool c1, .int .i64 (c2 : Int), u0, u_fw2, u_tof3, u_tof3, .agg (arrK .u8 32 (byt k)), .agg (pfc (.slice A_5 ss.length c_5) et ea ex), .bool true, .bool false, .int .i64 at_, .int .u64 (at_ % 18446744073709551616), .int .u64 ((at_ % 18446744073709551616) / 8), .pointer (some ⟨p8_6, 0, none⟩), (.slice A_5 ss.length c_5), .int .i64 ((List.map b32l ss).length : Int), .int .i64 ((32 * ss.length : Nat) : Int), .int .i64 ((32 * ss.length + 65 : Nat) : Int), .int .u64 ((32 * ss.length + 65 : Nat) : Int), .int .u64 (n : Int), .int .i64 ((n : Nat) : Int), .int .i64 at_, .int .u64 (at_ % 18446744073709551616), .int .u64 (m : Int), .int .u8 (IntKind.wrap .u8 (2 ^ m)), undef, undef, undef, undef, .bool true, .int .i64 ((n : Nat) : Int), .pointer (some ⟨p8_6, 0, none⟩), (.slice A_5 ss.length c_5), .int .i64 ((List.map b32l ss).length : Int), .int .i64 ((32 * ss.length : Nat) : Int), .bool true, .pointer (some ⟨p8_6, 0, none⟩), (.slice A_5 ss.length c_5), .int .i64 ((n : Nat) : Int), .int .i64 ((n / 32 : Nat) : Int), .int .i64 ((n : Nat) : Int), .int .i64 ((n % 32 : Nat) : Int), .pointer (some ⟨gb58_7, (n / 32) * 32, none⟩), .pointer (some ⟨gb58_7, n / 32 * 32 + n % 32, none⟩), .int .u8 (byt y (n % 32)), .int .u8 (IntKind.wrap .u8 (2 ^ m)), .int .u8 (bits .xor .u8 (byt y (n % 32)) (IntKind.wrap .u8 (2 ^ m))), .pointer (some ⟨gb63_8, (n / 32) * 32, none⟩), .pointer (some ⟨gb63_8, n / 32 * 32 + n % 32, none⟩), undef, undef, undef, undef, undef, undef, undef, undef, undef, undef, undef, undef, undef, undef, undef, undef, undef, undef, undef, undef, undef, undef, undef, undef, undef, undef, undef, undef, undef, undef, undef, undef, undef, undef, undef, undef, undef, undef, undef, undef, undef, undef, undef, undef, undef, undef, undef, u_tof3, .agg (arrK .u8 32 (byt U1)), .tuple #[.agg (arrK .u8 32 (byt c0)), .bool c1, .int .i64 (c2 : Int)], .agg (arrK .u8 32 (byt U1)), .agg (arrK .u8 32 (byt k)), .agg (pfc (.slice A_5 ss.length c_5) et ea ex), .tuple #[.agg (arrK .u8 32 (byt c0)), .bool c1, .int .i64 (c2 : Int)], .agg (arrK .u8 32 (byt c0)), .bool c1, .int .i64 (c2 : Int), .tuple #[.agg (arrK .u8 32 (byt c0)), .bool c1, .int .i64 (c2 : Int)], .slice (some ⟨p11_9, 0, none⟩) 32 32, str (lb 32 U1), .agg (arrK .u8 32 (byt k)), .agg (pfc (.slice A_5 ss.length c_5) et ea ex), .agg (pfc (.slice A_5 ss.length c_5) et ea ex), .tuple #[.agg (arrK .u8 32 (byt c0)), .bool c1, .int .i64 (c2 : Int)], .agg (arrK .u8 32 (byt c0)), .bool c1, .int .i64 (c2 : Int), undef, undef, undef, undef, undef, undef, undef, undef, undef, undef, undef, undef, undef], defers := [] } ∧ SH [] w w_ [.b j16_0 (arrK .u8 32 (byt c0)) 22, .r 30 64 u_fw2 (List.map lfl L), .r 22 32 (.slice A_5 ss.length c_5) (List.map b32l (ss.set (n / 32) y2)), .b p11_9 (arrK .u8 32 (byt U1)) 22, .b p12_10 (arrK .u8 32 (byt c0)) 22, .b p4_1 (arrK .u8 32 (byt k)) 28, .b p8_6 (pfc (.slice A_5 ss.length c_5) et ea ex) 69, .t 105 (fun W => TA W (ofT L) u_tof3)]) ?_ ?_
   ·
    skip
    refine RTh (.q 0 (.q 1 (.q 2 (.q 3 (.b 4 (.b 5 (.q 6 (.q 7 (.q 8 (.q 9 (.e 10 (.e 11 (.q 12 (.q 13 .z)))))))) 10 (.e 5 (.q 6 (.q 7 (.q 8 (.q 9 (.e 11 (.q 12 (.q 13 .z))))))))) 10 (.e 4 (.e 5 (.q 6 (.q 7 (.q 8 (.q 9 (.e 11 (.q 12 (.q 13 .z)))))))))))))) hS ?_
    clear hS
    refine TW ?_ (v := .slice (some ⟨p11_9, 0, none⟩) 32 32)
    refine TF (v := str (lb 32 U1)) rfl (fun W hS => run_cvs (sl_part (V := U1) (n := 32) (off := 0) (c := 32) (hS.blk (i := 1) rfl) ap0 (by decide) (by decide)) rfl rfl) ?_
    refine TL 6 ?_
    refine TL 2 ?_ (hs := by rw [pf_size]; kernel_rfl)
    refine TB (fun _ h => h) ?_ ?_
    ·
     skip
     refine MC (v := .agg (pfc (.slice A_5 ss.length c_5) et ea ex)) (fun W hS => pfrom_c et ea ex W) ?_
     refine TNh (fun W hS => hS) ?_
     refine TB (fun _ h => h) ?_ ?_
     ·
      skip
      refine MC (v := .tuple #[.agg (arrK .u8 32 (byt c0)), .bool c1, .int .i64 (c2 : Int)]) (fun W hS => (by have h_ := rCheck_c hr (R := U1) (k := k) (th := et) (x := ex) (by rw [HU1.out]; exact rs_lt _) hk hea (by first | omega | (rw [List.length_set]; omega)) W (GT_ext hG hS.ext) (hS.row (i := 3) rfl).rr; rw [HC.out] at h_; exact h_)) ?_
      refine TNh (fun W hS => hS) ?_
      refine TV ?_
      refine TV ?_
      refine TW ?_ (v := .bool c1)
      refine TV ?_
      refine TE (fun _ h => h) ?_
      refine MN (z := arrK .u8 32 (byt 0)) (t := 22) ?_
      intro p15_11
      refine TNp [1, 2, 3, 4, 5, 6, 7] [0, 1, 2, 3, 4, 5, 6] ?_
      refine TE (fun _ h => h.pick [1, 2, 3, 4, 5, 6, 7]) ?_
      refine MR 0 ?_ 
      refine TNp [1, 2, 3, 4, 5, 6, 7] [0, 1, 2, 3, 4, 5, 6] ?_
      refine TW ?_ (v := .bool c1)
      refine TV ?_
      refine TZ (fun _ h => h.pick [1, 2, 3, 4, 5, 6, 7]) fun W hS => ?_
      exact ⟨p15_11, rfl, hS.pick [0, 6, 4, 2, 1, 7, 3, 5]⟩
     ·
      skip
      refine MN (z := arrK .u8 32 (byt 0)) (t := 22) ?_
      intro p15_12
      refine TNp [1, 2, 3, 4, 5, 6, 7] [0, 1, 2, 3, 4, 5, 6] ?_
      refine TE (fun _ h => h.pick [1, 2, 3, 4, 5, 6, 7]) ?_
      refine MC (v := .tuple #[.agg (arrK .u8 32 (byt c0)), .bool c1, .int .i64 (c2 : Int)]) (fun W hS => (by have h_ := rCheck_c hr (R := U1) (k := k) (th := et) (x := ex) (by rw [HU1.out]; exact rs_lt _) hk hea (by first | omega | (rw [List.length_set]; omega)) W (GT_ext hG hS.ext) (hS.row (i := 4) rfl).rr; rw [HC.out] at h_; exact h_)) ?_
      refine TNp [1, 2, 3, 4, 5, 6, 7] [0, 1, 2, 3, 4, 5, 6] ?_
      refine TV ?_
      refine TV ?_
      refine TW ?_ (v := .bool c1)
      refine TV ?_
      refine TE (fun _ h => h.pick [1, 2, 3, 4, 5, 6, 7]) ?_
      refine MR 0 ?_ 
      refine TNp [1, 2, 3, 4, 5, 6, 7] [0, 1, 2, 3, 4, 5, 6] ?_
      refine TW ?_ (v := .bool c1)
      refine TV ?_
      refine TZ (fun _ h => h.pick [1, 2, 3, 4, 5, 6, 7]) fun W hS => ?_
      exact ⟨p15_12, rfl, hS.pick [0, 6, 4, 2, 1, 7, 3, 5]⟩
    ·
     skip
     refine MN (z := arrK .u8 32 (byt 0)) (t := 22) ?_
     intro p15_13
     refine TNp [1, 2, 3, 4, 5, 6, 7] [0, 1, 2, 3, 4, 5, 6] ?_
     refine TE (fun _ h => h.pick [1, 2, 3, 4, 5, 6, 7]) ?_
     refine MC (v := .agg (pfc (.slice A_5 ss.length c_5) et ea ex)) (fun W hS => pfrom_c et ea ex W) ?_
     refine TNp [1, 2, 3, 4, 5, 6, 7] [0, 1, 2, 3, 4, 5, 6] ?_
     refine TE (fun _ h => h.pick [1, 2, 3, 4, 5, 6, 7]) ?_
     refine MC (v := .tuple #[.agg (arrK .u8 32 (byt c0)), .bool c1, .int .i64 (c2 : Int)]) (fun W hS => (by have h_ := rCheck_c hr (R := U1) (k := k) (th := et) (x := ex) (by rw [HU1.out]; exact rs_lt _) hk hea (by first | omega | (rw [List.length_set]; omega)) W (GT_ext hG hS.ext) (hS.row (i := 4) rfl).rr; rw [HC.out] at h_; exact h_)) ?_
     refine TNp [1, 2, 3, 4, 5, 6, 7] [0, 1, 2, 3, 4, 5, 6] ?_
     refine TV ?_
     refine TV ?_
     refine TW ?_ (v := .bool c1)
     refine TV ?_
     refine TE (fun _ h => h.pick [1, 2, 3, 4, 5, 6, 7]) ?_
     refine MR 0 ?_ 
     refine TNp [1, 2, 3, 4, 5, 6, 7] [0, 1, 2, 3, 4, 5, 6] ?_
     refine TW ?_ (v := .bool c1)
     refine TV ?_
     refine TZ (fun _ h => h.pick [1, 2, 3, 4, 5, 6, 7]) fun W hS => ?_
     exact ⟨p15_13, rfl, hS.pick [0, 6, 4, 2, 1, 7, 3, 5]⟩
   rintro _ W ⟨j16_0, rfl, hS⟩
   go_upto_region 17 with fail
   refine RL hS ?_
   clear hS
   refine ML 4 ?_
   refine ML 0 ?_
   refine MW ?_ (v := .bool true) (hv := fun _ => run_eqlA ((fun w => eqS32 rfl w) _) (by kernel_rfl) rfl rfl rfl)
   refine MW ?_ (v := .bool true)
   refine MW ?_ (v := .bool c1)
   refine MW ?_ (v := .bool c1)
   refine MW ?_ (v := .bool true) (hv := by intro W; first | (go_simp; done) | (go_simp; with_reducible rfl) | (go_simp; omega))
   refine MW ?_ (v := .bool true)
   refine MW ?_ (v := .bool true)
   refine MV ?_
   refine MV ?_
   refine MW ?_ (v := .bool true) (hv := by intro W; first | (go_simp; done) | (go_simp; with_reducible rfl) | (go_simp; omega))
   refine MW ?_ (v := .bool true)
   refine MW ?_ (v := .bool true)
   refine MZ fun W hS => ?_
   go_wp2
   exact bodyPost_ret (v := .bool true) (by simp only [results, Tryd.results10]; go_simp) rfl ⟨rfl, hS.ext⟩
 ·
  have _f := True.intro
  obtain ⟨q, hq⟩ : ∃ q, n = 32 * ss.length + q := ⟨n - 32 * ss.length, by omega⟩
  have hq32 : q < 32 := by omega
  have Hq := Lib.hid hq
  clear hq
  obtain ⟨y2, hy2, ey2⟩ := byt_put ea (q) (bits .xor .u8 (byt ea (q)) (IntKind.wrap .u8 (2 ^ m))) (xor_ok _ _)
  go_upto_region 8 with fail
  refine RL hS ?_
  clear hS
  refine MV ?_
  refine MV ?_
  refine MG 0 ?_ (v := (.slice A_5 ss.length c_5)) (hj := pf_s)
  refine MF (v := .int .i64 ((List.map b32l ss).length : Int)) (fun W hS => run_lenR (hS.row (i := 1) rfl) rfl rfl Tryd.underlying58) ?_
  refine MW ?_ (v := .int .i64 ((32 * ss.length : Nat) : Int)) (hv := by intro W; have h0_ : (0 : Int) ≤ at_ % 18446744073709551616 := (by omega); go_simp; (try simp only [IntKind.wrap_u64, IntKind.wrap_i64]); (try rw [Int.tmod_eq_emod_of_nonneg (by omega)]); (try rw [Int.tdiv_eq_ediv_of_nonneg (by omega)]); (try rw [if_neg (by omega)]); (try omega))
  refine MW ?_ (v := .bool false) (hv := by intro W; go_simp; (try omega))
  refine MW ?_ (v := .bool false)
  refine MZ fun W hS => ?_
  go_upto_region 10 with fail
  refine RL hS ?_
  clear hS
  refine MV ?_
  refine MV ?_
  refine MG 0 ?_ (v := (.slice A_5 ss.length c_5)) (hj := pf_s)
  refine MF (v := .int .i64 ((List.map b32l ss).length : Int)) (fun W hS => run_lenR (hS.row (i := 1) rfl) rfl rfl Tryd.underlying58) ?_
  refine MW ?_ (v := .int .i64 ((32 * ss.length : Nat) : Int)) (hv := by intro W; have h0_ : (0 : Int) ≤ at_ % 18446744073709551616 := (by omega); go_simp; (try simp only [IntKind.wrap_u64, IntKind.wrap_i64]); (try rw [Int.tmod_eq_emod_of_nonneg (by omega)]); (try rw [Int.tdiv_eq_ediv_of_nonneg (by omega)]); (try rw [if_neg (by omega)]); (try omega))
  refine MW ?_ (v := .int .i64 ((32 * ss.length + 32 : Nat) : Int)) (hv := by intro W; have h0_ : (0 : Int) ≤ at_ % 18446744073709551616 := (by omega); go_simp; (try simp only [IntKind.wrap_u64, IntKind.wrap_i64]); (try rw [Int.tmod_eq_emod_of_nonneg (by omega)]); (try rw [Int.tdiv_eq_ediv_of_nonneg (by omega)]); (try rw [if_neg (by omega)]); (try omega))
  refine MW ?_ (v := .bool true) (hv := by intro W; go_simp; (try omega))
  refine MW ?_ (v := .bool true)
  refine MZ fun W hS => ?_
  go_upto_region 11 with fail
  refine RL hS ?_
  clear hS
  refine MV ?_
  refine MV ?_
  refine MG 0 ?_ (v := (.slice A_5 ss.length c_5)) (hj := pf_s)
  refine MF (v := .int .i64 ((List.map b32l ss).length : Int)) (fun W hS => run_lenR (hS.row (i := 1) rfl) rfl rfl Tryd.underlying58) ?_
  refine MW ?_ (v := .int .i64 ((32 * ss.length : Nat) : Int)) (hv := by intro W; have h0_ : (0 : Int) ≤ at_ % 18446744073709551616 := (by omega); go_simp; (try simp only [IntKind.wrap_u64, IntKind.wrap_i64]); (try rw [Int.tmod_eq_emod_of_nonneg (by omega)]); (try rw [Int.tdiv_eq_ediv_of_nonneg (by omega)]); (try rw [if_neg (by omega)]); (try omega))
  refine MW ?_ (v := .int .i64 ((q : Nat) : Int)) (hv := by intro W; have hq_ := Hq.out; have h0_ : (0 : Int) ≤ at_ % 18446744073709551616 := (by omega); go_simp; (try simp only [IntKind.wrap_u64, IntKind.wrap_i64]); (try rw [Int.tmod_eq_emod_of_nonneg (by omega)]); (try rw [Int.tdiv_eq_ediv_of_nonneg (by omega)]); (try rw [if_neg (by omega)]); (try omega))
  refine MV ?_
  refine MV ?_
  refine MW ?_ (v := .pointer (some ⟨p8_6, 2 + q, none⟩)) (hv := fun _ => run_ixarr (m := 32) (by decide) (by omega) Tryd.underlying28 (by kernel_rfl) rfl rfl rfl)
  refine MG 0 ?_ (v := .int .u8 (byt ea q)) (hj := pf_k q _ (arrK_get _ _ _ _ (by omega)))
  refine MV ?_
  refine MW ?_ (v := .int .u8 (bits .xor .u8 (byt ea q) (IntKind.wrap .u8 (2 ^ m)))) (hv := by intro W; exact run_xorB rfl rfl rfl)
  refine MV ?_
  refine MV ?_
  refine MW ?_ (v := .pointer (some ⟨p8_6, 2 + q, none⟩)) (hv := fun _ => run_ixarr (m := 32) (by decide) (by omega) Tryd.underlying28 (by kernel_rfl) rfl rfl rfl)
  refine MP 0 (v := .int .u8 (bits .xor .u8 (byt ea q) (IntKind.wrap .u8 (2 ^ m)))) (cs' := pfc (.slice A_5 ss.length c_5) et y2 ex) ?_ (hs := by rw [pf_size]; omega) (hc := pf_puta (by omega) ey2)
  refine MZ fun W hS => ?_
  go_upto_region 14 with fail
  refine RL hS ?_
  clear hS
  refine MV ?_
  obtain ⟨U1, hU1⟩ := exn (rs (ofT L))
  have HU1 := Lib.hid hU1
  clear hU1
  refine MC (v := .agg (arrK .u8 32 (byt U1))) (fun W hS => (by rw [HU1.out]; exact root_c W (GT_ext hG hS.ext) (hS.tt (i := 2) rfl))) ?_
  refine MN (z := arrK .u8 32 (byt 0)) (t := 22) ?_
  intro p11_14
  refine MR 0 ?_ 
  refine MZ fun W hS => ?_
  ·
   have _f := True.intro
   obtain ⟨c0, c1, c2, hc⟩ : ∃ u v z, chk U1 k ss et y2 ex = (u, v, z) := ⟨_, _, _, rfl⟩
   have HC := Lib.hid hc
   clear hc
   go_upto_region 15 with fail
   refine RL hS ?_
   clear hS
   refine ML 0 ?_
   refine ML 5 ?_
   refine ML 1 ?_ (hs := by rw [pf_size]; kernel_rfl)
   refine MC (v := .tuple #[.agg (arrK .u8 32 (byt c0)), .bool c1, .int .i64 (c2 : Int)]) (fun W hS => (by have h_ := check_c (R := U1) (k := k) (th := et) (x := ex) (by rw [HU1.out]; exact rs_lt _) hk hy2 (by first | omega | (rw [List.length_set]; omega)) W (GT_ext hG hS.ext) (hS.row (i := 2) rfl).rr; rw [HC.out] at h_; exact h_)) ?_
   refine MV ?_
   refine MV ?_
   refine MW ?_ (v := .bool c1)
   refine MV ?_
   refine MN (z := arrK .u8 32 (byt 0)) (t := 22) ?_
   intro p12_15
   refine MR 0 ?_ 
   refine MW ?_ (v := .bool c1)
   refine MV ?_
   refine MZ fun W hS => ?_
   go_upto_region 16 with fail
   refine RJ (R := fun a_ w_ => ∃ (j16_0 : Nat), a_ = { tmps := #[u0, .agg (arrK .u8 32 (byt k)), .int .i64 at_, undef, .pointer (some ⟨p4_1, 0, none⟩), undef, .bool false, u_tof3, .pointer (some ⟨p8_6, 0, none⟩), .int .i64 ((n : Nat) : Int), .int .u8 (IntKind.wrap .u8 (2 ^ m)), .pointer (some ⟨p11_14, 0, none⟩), .pointer (some ⟨p12_15, 0, none⟩), .bool c1, .int .i64 (c2 : Int), .pointer (some ⟨j16_0, 0, none⟩), .bool c1, .int .i64 (c2 : Int), u0, u_fw2, u_tof3, u_tof3, .agg (arrK .u8 32 (byt k)), .agg (pfc (.slice A_5 ss.length c_5) et ea ex), .bool true, .bool false, .int .i64 at_, .int .u64 (at_ % 18446744073709551616), .int .u64 ((at_ % 18446744073709551616) / 8), .pointer (some ⟨p8_6, 0, none⟩), (.slice A_5 ss.length c_5), .int .i64 ((List.map b32l ss).length : Int), .int .i64 ((32 * ss.length : Nat) : Int), .int .i64 ((32 * ss.length + 65 : Nat) : Int), .int .u64 ((32 * ss.length + 65 : Nat) : Int), .int .u64 (n : Int), .int .i64 ((n : Nat) : Int), .int .i64 at_, .int .u64 (at_ % 18446744073709551616), .int .u64 (m : Int), .int .u8 (IntKind.wrap .u8 (2 ^ m)), undef, undef, undef, undef, .bool false, .int .i64 ((n : Nat) : Int), .pointer (some ⟨p8_6, 0, none⟩), (.slice A_5 ss.length c_5), .int .i64 ((List.map b32l ss).length : Int), .int .i64 ((32 * ss.length : Nat) : Int), .bool false, undef, undef, undef, undef, undef, undef, undef, undef, undef, undef, undef, undef, undef, .bool true, .int .i64 ((n : Nat) : Int), .pointer (some ⟨p8_6, 0, none⟩), (.slice A_5 ss.length c_5), .int .i64 ((List.map b32l ss).length : Int), .int .i64 ((32 * ss.length : Nat) : Int), .int .i64 ((32 * ss.length + 32 : Nat) : Int), .bool true, .int .i64 ((n : Nat) : Int), .pointer (some ⟨p8_6, 0, none⟩), (.slice A_5 ss.length c_5), .int .i64 ((List.map b32l ss).length : Int), .int .i64 ((32 * ss.length : Nat) : Int), .int .i64 ((q : Nat) : Int), .pointer (some ⟨p8_6, 2, none⟩), .pointer (some ⟨p8_6, 2, none⟩), .pointer (some ⟨p8_6, 2 + q, none⟩), .int .u8 (byt ea q), .int .u8 (IntKind.wrap .u8 (2 ^ m)), .int .u8 (bits .xor .u8 (byt ea q) (IntKind.wrap .u8 (2 ^ m))), .pointer (some ⟨p8_6, 2, none⟩), .pointer (some ⟨p8_6, 2, none⟩), .pointer (some ⟨p8_6, 2 + q, none⟩), undef, undef, undef, undef, undef, undef, undef, undef, undef, undef, undef, undef, undef, undef, undef, undef, undef, undef, undef, undef, undef, undef, undef, undef, u_tof3, .agg (arrK .u8 32 (byt U1)), .tuple #[.agg (arrK .u8 32 (byt c0)), .bool c1, .int .i64 (c2 : Int)], .agg (arrK .u8 32 (byt U1)), .agg (arrK .u8 32 (byt k)), .agg (pfc (.slice A_5 ss.length c_5) et y2 ex), .tuple #[.agg (arrK .u8 32 (byt c0)), .bool c1, .int .i64 (c2 : Int)], .agg (arrK .u8 32 (byt c0)), .bool c1, .int .i64 (c2 : Int), .tuple #[.agg (arrK .u8 32 (byt c0)), .bool c1, .int .i64 (c2 : Int)], .slice (some ⟨p11_14, 0, none⟩) 32 32, str (lb 32 U1), .agg (arrK .u8 32 (byt k)), .agg (pfc (.slice A_5 ss.length c_5) et y2 ex), .agg (pfc (.slice A_5 ss.length c_5) et y2 ex), .tuple #[.agg (arrK .u8 32 (byt c0)), .bool c1, .int .i64 (c2 : Int)], .agg (arrK .u8 32 (byt c0)), .bool c1, .int .i64 (c2 : Int), undef, undef, undef, undef, undef, undef, undef, undef, undef, undef, undef, undef, undef], defers := [] } ∧ SH [] w w_ [.b j16_0 (arrK .u8 32 (byt c0)) 22, .r 30 64 u_fw2 (List.map lfl L), .r 22 32 (.slice A_5 ss.length c_5) (List.map b32l ss), .b p11_14 (arrK .u8 32 (byt U1)) 22, .b p12_15 (arrK .u8 32 (byt c0)) 22, .b p4_1 (arrK .u8 32 (byt k)) 28, .b p8_6 (pfc (.slice A_5 ss.length c_5) et y2 ex) 69, .t 105 (fun W => TA W (ofT L) u_tof3)]) ?_ ?_
   ·
    skip
    refine RTh (.q 0 (.q 1 (.q 2 (.q 3 (.b 4 (.b 5 (.q 6 (.q 7 (.q 8 (.q 9 (.e 10 (.e 11 (.q 12 (.q 13 .z)))))))) 10 (.e 5 (.q 6 (.q 7 (.q 8 (.q 9 (.e 11 (.q 12 (.q 13 .z))))))))) 10 (.e 4 (.e 5 (.q 6 (.q 7 (.q 8 (.q 9 (.e 11 (.q 12 (.q 13 .z)))))))))))))) hS ?_
    clear hS
    refine TW ?_ (v := .slice (some ⟨p11_14, 0, none⟩) 32 32)
    refine TF (v := str (lb 32 U1)) rfl (fun W hS => run_cvs (sl_part (V := U1) (n := 32) (off := 0) (c := 32) (hS.blk (i := 1) rfl) ap0 (by decide) (by decide)) rfl rfl) ?_
    refine TL 6 ?_
    refine TL 2 ?_ (hs := by rw [pf_size]; kernel_rfl)
    refine TB (fun _ h => h) ?_ ?_
    ·
     skip
     refine MC (v := .agg (pfc (.slice A_5 ss.length c_5) et y2 ex)) (fun W hS => pfrom_c et y2 ex W) ?_
     refine TNh (fun W hS => hS) ?_
     refine TB (fun _ h => h) ?_ ?_
     ·
      skip
      refine MC (v := .tuple #[.agg (arrK .u8 32 (byt c0)), .bool c1, .int .i64 (c2 : Int)]) (fun W hS => (by have h_ := rCheck_c hr (R := U1) (k := k) (th := et) (x := ex) (by rw [HU1.out]; exact rs_lt _) hk hy2 (by first | omega | (rw [List.length_set]; omega)) W (GT_ext hG hS.ext) (hS.row (i := 3) rfl).rr; rw [HC.out] at h_; exact h_)) ?_
      refine TNh (fun W hS => hS) ?_
      refine TV ?_
      refine TV ?_
      refine TW ?_ (v := .bool c1)
      refine TV ?_
      refine TE (fun _ h => h) ?_
      refine MN (z := arrK .u8 32 (byt 0)) (t := 22) ?_
      intro p15_16
      refine TNp [1, 2, 3, 4, 5, 6, 7] [0, 1, 2, 3, 4, 5, 6] ?_
      refine TE (fun _ h => h.pick [1, 2, 3, 4, 5, 6, 7]) ?_
      refine MR 0 ?_ 
      refine TNp [1, 2, 3, 4, 5, 6, 7] [0, 1, 2, 3, 4, 5, 6] ?_
      refine TW ?_ (v := .bool c1)
      refine TV ?_
      refine TZ (fun _ h => h.pick [1, 2, 3, 4, 5, 6, 7]) fun W hS => ?_
      exact ⟨p15_16, rfl, hS.pick [0, 6, 4, 2, 1, 7, 3, 5]⟩
     ·
      skip
      refine MN (z := arrK .u8 32 (byt 0)) (t := 22) ?_
      intro p15_17
      refine TNp [1, 2, 3, 4, 5, 6, 7] [0, 1, 2, 3, 4, 5, 6] ?_
      refine TE (fun _ h => h.pick [1, 2, 3, 4, 5, 6, 7]) ?_
      refine MC (v := .tuple #[.agg (arrK .u8 32 (byt c0)), .bool c1, .int .i64 (c2 : Int)]) (fun W hS => (by have h_ := rCheck_c hr (R := U1) (k := k) (th := et) (x := ex) (by rw [HU1.out]; exact rs_lt _) hk hy2 (by first | omega | (rw [List.length_set]; omega)) W (GT_ext hG hS.ext) (hS.row (i := 4) rfl).rr; rw [HC.out] at h_; exact h_)) ?_
      refine TNp [1, 2, 3, 4, 5, 6, 7] [0, 1, 2, 3, 4, 5, 6] ?_
      refine TV ?_
      refine TV ?_
      refine TW ?_ (v := .bool c1)
      refine TV ?_
      refine TE (fun _ h => h.pick [1, 2, 3, 4, 5, 6, 7]) ?_
      refine MR 0 ?_ 
      refine TNp [1, 2, 3, 4, 5, 6, 7] [0, 1, 2, 3, 4, 5, 6] ?_
      refine TW ?_ (v := .bool c1)
      refine TV ?_
      refine TZ (fun _ h => h.pick [1, 2, 3, 4, 5, 6, 7]) fun W hS => ?_
      exact ⟨p15_17, rfl, hS.pick [0, 6, 4, 2, 1, 7, 3, 5]⟩
    ·
     skip
     refine MN (z := arrK .u8 32 (byt 0)) (t := 22) ?_
     intro p15_18
     refine TNp [1, 2, 3, 4, 5, 6, 7] [0, 1, 2, 3, 4, 5, 6] ?_
     refine TE (fun _ h => h.pick [1, 2, 3, 4, 5, 6, 7]) ?_
     refine MC (v := .agg (pfc (.slice A_5 ss.length c_5) et y2 ex)) (fun W hS => pfrom_c et y2 ex W) ?_
     refine TNp [1, 2, 3, 4, 5, 6, 7] [0, 1, 2, 3, 4, 5, 6] ?_
     refine TE (fun _ h => h.pick [1, 2, 3, 4, 5, 6, 7]) ?_
     refine MC (v := .tuple #[.agg (arrK .u8 32 (byt c0)), .bool c1, .int .i64 (c2 : Int)]) (fun W hS => (by have h_ := rCheck_c hr (R := U1) (k := k) (th := et) (x := ex) (by rw [HU1.out]; exact rs_lt _) hk hy2 (by first | omega | (rw [List.length_set]; omega)) W (GT_ext hG hS.ext) (hS.row (i := 4) rfl).rr; rw [HC.out] at h_; exact h_)) ?_
     refine TNp [1, 2, 3, 4, 5, 6, 7] [0, 1, 2, 3, 4, 5, 6] ?_
     refine TV ?_
     refine TV ?_
     refine TW ?_ (v := .bool c1)
     refine TV ?_
     refine TE (fun _ h => h.pick [1, 2, 3, 4, 5, 6, 7]) ?_
     refine MR 0 ?_ 
     refine TNp [1, 2, 3, 4, 5, 6, 7] [0, 1, 2, 3, 4, 5, 6] ?_
     refine TW ?_ (v := .bool c1)
     refine TV ?_
     refine TZ (fun _ h => h.pick [1, 2, 3, 4, 5, 6, 7]) fun W hS => ?_
     exact ⟨p15_18, rfl, hS.pick [0, 6, 4, 2, 1, 7, 3, 5]⟩
   rintro _ W ⟨j16_0, rfl, hS⟩
   go_upto_region 17 with fail
   refine RL hS ?_
   clear hS
   refine ML 4 ?_
   refine ML 0 ?_
   refine MW ?_ (v := .bool true) (hv := fun _ => run_eqlA ((fun w => eqS32 rfl w) _) (by kernel_rfl) rfl rfl rfl)
   refine MW ?_ (v := .bool true)
   refine MW ?_ (v := .bool c1)
   refine MW ?_ (v := .bool c1)
   refine MW ?_ (v := .bool true) (hv := by intro W; first | (go_simp; done) | (go_simp; with_reducible rfl) | (go_simp; omega))
   refine MW ?_ (v := .bool true)
   refine MW ?_ (v := .bool true)
   refine MV ?_
   refine MV ?_
   refine MW ?_ (v := .bool true) (hv := by intro W; first | (go_simp; done) | (go_simp; with_reducible rfl) | (go_simp; omega))
   refine MW ?_ (v := .bool true)
   refine MW ?_ (v := .bool true)
   refine MZ fun W hS => ?_
   go_wp2
   exact bodyPost_ret (v := .bool true) (by simp only [results, Tryd.results10]; go_simp) rfl ⟨rfl, hS.ext⟩
 ·
  have _f := True.intro
  obtain ⟨q, hq⟩ : ∃ q, n = 32 * ss.length + 32 + q := ⟨n - 32 * ss.length - 32, by omega⟩
  have hq32 : q < 32 := by omega
  have Hq := Lib.hid hq
  clear hq
  obtain ⟨y2, hy2, ey2⟩ := byt_put ex (q) (bits .xor .u8 (byt ex (q)) (IntKind.wrap .u8 (2 ^ m))) (xor_ok _ _)
  go_upto_region 8 with fail
  refine RL hS ?_
  clear hS
  refine MV ?_
  refine MV ?_
  refine MG 0 ?_ (v := (.slice A_5 ss.length c_5)) (hj := pf_s)
  refine MF (v := .int .i64 ((List.map b32l ss).length : Int)) (fun W hS => run_lenR (hS.row (i := 1) rfl) rfl rfl Tryd.underlying58) ?_
  refine MW ?_ (v := .int .i64 ((32 * ss.length : Nat) : Int)) (hv := by intro W; have h0_ : (0 : Int) ≤ at_ % 18446744073709551616 := (by omega); go_simp; (try simp only [IntKind.wrap_u64, IntKind.wrap_i64]); (try rw [Int.tmod_eq_emod_of_nonneg (by omega)]); (try rw [Int.tdiv_eq_ediv_of_nonneg (by omega)]); (try rw [if_neg (by omega)]); (try omega))
  refine MW ?_ (v := .bool false) (hv := by intro W; go_simp; (try omega))
  refine MW ?_ (v := .bool false)
  refine MZ fun W hS => ?_
  go_upto_region 10 with fail
  refine RL hS ?_
  clear hS
  refine MV ?_
  refine MV ?_
  refine MG 0 ?_ (v := (.slice A_5 ss.length c_5)) (hj := pf_s)
  refine MF (v := .int .i64 ((List.map b32l ss).length : Int)) (fun W hS => run_lenR (hS.row (i := 1) rfl) rfl rfl Tryd.underlying58) ?_
  refine MW ?_ (v := .int .i64 ((32 * ss.length : Nat) : Int)) (hv := by intro W; have h0_ : (0 : Int) ≤ at_ % 18446744073709551616 := (by omega); go_simp; (try simp only [IntKind.wrap_u64, IntKind.wrap_i64]); (try rw [Int.tmod_eq_emod_of_nonneg (by omega)]); (try rw [Int.tdiv_eq_ediv_of_nonneg (by omega)]); (try rw [if_neg (by omega)]); (try omega))
  refine MW ?_ (v := .int .i64 ((32 * ss.length + 32 : Nat) : Int)) (hv := by intro W; have h0_ : (0 : Int) ≤ at_ % 18446744073709551616 := (by omega); go_simp; (try simp only [IntKind.wrap_u64, IntKind.wrap_i64]); (try rw [Int.tmod_eq_emod_of_nonneg (by omega)]); (try rw [Int.tdiv_eq_ediv_of_nonneg (by omega)]); (try rw [if_neg (by omega)]); (try omega))
  refine MW ?_ (v := .bool false) (hv := by intro W; go_simp; (try omega))
  refine MW ?_ (v := .bool false)
  refine MZ fun W hS => ?_
  go_upto_region 12 with fail
  refine RL hS ?_
  clear hS
  refine MV ?_
  refine MV ?_
  refine MG 0 ?_ (v := (.slice A_5 ss.length c_5)) (hj := pf_s)
  refine MF (v := .int .i64 ((List.map b32l ss).length : Int)) (fun W hS => run_lenR (hS.row (i := 1) rfl) rfl rfl Tryd.underlying58) ?_
  refine MW ?_ (v := .int .i64 ((32 * ss.length : Nat) : Int)) (hv := by intro W; have h0_ : (0 : Int) ≤ at_ % 18446744073709551616 := (by omega); go_simp; (try simp only [IntKind.wrap_u64, IntKind.wrap_i64]); (try rw [Int.tmod_eq_emod_of_nonneg (by omega)]); (try rw [Int.tdiv_eq_ediv_of_nonneg (by omega)]); (try rw [if_neg (by omega)]); (try omega))
  refine MW ?_ (v := .int .i64 ((32 * ss.length + 64 : Nat) : Int)) (hv := by intro W; have h0_ : (0 : Int) ≤ at_ % 18446744073709551616 := (by omega); go_simp; (try simp only [IntKind.wrap_u64, IntKind.wrap_i64]); (try rw [Int.tmod_eq_emod_of_nonneg (by omega)]); (try rw [Int.tdiv_eq_ediv_of_nonneg (by omega)]); (try rw [if_neg (by omega)]); (try omega))
  refine MW ?_ (v := .bool true) (hv := by intro W; go_simp; (try omega))
  refine MW ?_ (v := .bool true)
  refine MZ fun W hS => ?_
  go_upto_region 13 with fail
  refine RL hS ?_
  clear hS
  refine MV ?_
  refine MV ?_
  refine MG 0 ?_ (v := (.slice A_5 ss.length c_5)) (hj := pf_s)
  refine MF (v := .int .i64 ((List.map b32l ss).length : Int)) (fun W hS => run_lenR (hS.row (i := 1) rfl) rfl rfl Tryd.underlying58) ?_
  refine MW ?_ (v := .int .i64 ((32 * ss.length : Nat) : Int)) (hv := by intro W; have h0_ : (0 : Int) ≤ at_ % 18446744073709551616 := (by omega); go_simp; (try simp only [IntKind.wrap_u64, IntKind.wrap_i64]); (try rw [Int.tmod_eq_emod_of_nonneg (by omega)]); (try rw [Int.tdiv_eq_ediv_of_nonneg (by omega)]); (try rw [if_neg (by omega)]); (try omega))
  refine MW ?_ (v := .int .i64 ((q + 32 : Nat) : Int)) (hv := by intro W; have hq_ := Hq.out; have h0_ : (0 : Int) ≤ at_ % 18446744073709551616 := (by omega); go_simp; (try simp only [IntKind.wrap_u64, IntKind.wrap_i64]); (try rw [Int.tmod_eq_emod_of_nonneg (by omega)]); (try rw [Int.tdiv_eq_ediv_of_nonneg (by omega)]); (try rw [if_neg (by omega)]); (try omega))
  refine MW ?_ (v := .int .i64 ((q : Nat) : Int)) (hv := by intro W; have hq_ := Hq.out; have h0_ : (0 : Int) ≤ at_ % 18446744073709551616 := (by omega); go_simp; (try simp only [IntKind.wrap_u64, IntKind.wrap_i64]); (try rw [Int.tmod_eq_emod_of_nonneg (by omega)]); (try rw [Int.tdiv_eq_ediv_of_nonneg (by omega)]); (try rw [if_neg (by omega)]); (try omega))
  refine MV ?_
  refine MV ?_
  refine MW ?_ (v := .pointer (some ⟨p8_6, 34 + q, none⟩)) (hv := fun _ => run_ixarr (m := 32) (by decide) (by omega) Tryd.underlying22 (by kernel_rfl) rfl rfl rfl)
  refine MG 0 ?_ (v := .int .u8 (byt ex q)) (hj := pf_v q _ (arrK_get _ _ _ _ (by omega)))
  refine MV ?_
  refine MW ?_ (v := .int .u8 (bits .xor .u8 (byt ex q) (IntKind.wrap .u8 (2 ^ m)))) (hv := by intro W; exact run_xorB rfl rfl rfl)
  refine MV ?_
  refine MV ?_
  refine MW ?_ (v := .pointer (some ⟨p8_6, 34 + q, none⟩)) (hv := fun _ => run_ixarr (m := 32) (by decide) (by omega) Tryd.underlying22 (by kernel_rfl) rfl rfl rfl)
  refine MP 0 (v := .int .u8 (bits .xor .u8 (byt ex q) (IntKind.wrap .u8 (2 ^ m)))) (cs' := pfc (.slice A_5 ss.length c_5) et ea y2) ?_ (hs := by rw [pf_size]; omega) (hc := pf_putx (by omega) ey2)
  refine MZ fun W hS => ?_
  go_upto_region 14 with fail
  refine RL hS ?_
  clear hS
  refine MV ?_
  obtain ⟨U1, hU1⟩ := exn (rs (ofT L))
  have HU1 := Lib.hid hU1
  clear hU1
  refine MC (v := .agg (arrK .u8 32 (byt U1))) (fun W hS => (by rw [HU1.out]; exact root_c W (GT_ext hG hS.ext) (hS.tt (i := 2) rfl))) ?_
  refine MN (z := arrK .u8 32 (byt 0)) (t := 22) ?_
  intro p11_19
  refine MR 0 ?_ 
  refine MZ fun W hS => ?_
  ·
   have _f := True.intro
   obtain ⟨c0, c1, c2, hc⟩ : ∃ u v z, chk U1 k ss et ea y2 = (u, v, z) := ⟨_, _, _, rfl⟩
   have HC := Lib.hid hc
   clear hc
   go_upto_region 15 with fail
   refine RL hS ?_
   clear hS
   refine ML 0 ?_
   refine ML 5 ?_
   refine ML 1 ?_ (hs := by rw [pf_size]; kernel_rfl)
   refine MC (v := .tuple #[.agg (arrK .u8 32 (byt c0)), .bool c1, .int .i64 (c2 : Int)]) (fun W hS => (by have h_ := check_c (R := U1) (k := k) (th := et) (x := y2) (by rw [HU1.out]; exact rs_lt _) hk hea (by first | omega | (rw [List.length_set]; omega)) W (GT_ext hG hS.ext) (hS.row (i := 2) rfl).rr; rw [HC.out] at h_; exact h_)) ?_
   refine MV ?_
   refine MV ?_
   refine MW ?_ (v := .bool c1)
   refine MV ?_
   refine MN (z := arrK .u8 32 (byt 0)) (t := 22) ?_
   intro p12_20
   refine MR 0 ?_ 
   refine MW ?_ (v := .bool c1)
   refine MV ?_
   refine MZ fun W hS => ?_
   go_upto_region 16 with fail
   refine RJ (R := fun a_ w_ => ∃ (j16_0 : Nat), a_ = { tmps := #[u0, .agg (arrK .u8 32 (byt k)), .int .i64 at_, undef, .pointer (some ⟨p4_1, 0, none⟩), undef, .bool false, u_tof3, .pointer (some ⟨p8_6, 0, none⟩), .int .i64 ((n : Nat) : Int), .int .u8 (IntKind.wrap .u8 (2 ^ m)), .pointer (some ⟨p11_19, 0, none⟩), .pointer (some ⟨p12_20, 0, none⟩), .bool c1, .int .i64 (c2 : Int), .pointer (some ⟨j16_0, 0, none⟩), .bool c1, .int .i64 (c2 : Int), u0, u_fw2, u_tof3, u_tof3, .agg (arrK .u8 32 (byt k)), .agg (pfc (.slice A_5 ss.length c_5) et ea ex), .bool true, .bool false, .int .i64 at_, .int .u64 (at_ % 18446744073709551616), .int .u64 ((at_ % 18446744073709551616) / 8), .pointer (some ⟨p8_6, 0, none⟩), (.slice A_5 ss.length c_5), .int .i64 ((List.map b32l ss).length : Int), .int .i64 ((32 * ss.length : Nat) : Int), .int .i64 ((32 * ss.length + 65 : Nat) : Int), .int .u64 ((32 * ss.length + 65 : Nat) : Int), .int .u64 (n : Int), .int .i64 ((n : Nat) : Int), .int .i64 at_, .int .u64 (at_ % 18446744073709551616), .int .u64 (m : Int), .int .u8 (IntKind.wrap .u8 (2 ^ m)), undef, undef, undef, undef, .bool false, .int .i64 ((n : Nat) : Int), .pointer (some ⟨p8_6, 0, none⟩), (.slice A_5 ss.length c_5), .int .i64 ((List.map b32l ss).length : Int), .int .i64 ((32 * ss.length : Nat) : Int), .bool false, undef, undef, undef, undef, undef, undef, undef, undef, undef, undef, undef, undef, undef, .bool false, .int .i64 ((n : Nat) : Int), .pointer (some ⟨p8_6, 0, none⟩), (.slice A_5 ss.length c_5), .int .i64 ((List.map b32l ss).length : Int), .int .i64 ((32 * ss.length : Nat) : Int), .int .i64 ((32 * ss.length + 32 : Nat) : Int), .bool false, undef, undef, undef, undef, undef, undef, undef, undef, undef, undef, undef, undef, undef, undef, undef, .bool true, .int .i64 ((n : Nat) : Int), .pointer (some ⟨p8_6, 0, none⟩), (.slice A_5 ss.length c_5), .int .i64 ((List.map b32l ss).length : Int), .int .i64 ((32 * ss.length : Nat) : Int), .int .i64 ((32 * ss.length + 64 : Nat) : Int), .bool true, .int .i64 ((n : Nat) : Int), .pointer (some ⟨p8_6, 0, none⟩), (.slice A_5 ss.length c_5), .int .i64 ((List.map b32l ss).length : Int), .int .i64 ((32 * ss.length : Nat) : Int), .int .i64 ((q + 32 : Nat) : Int), .int .i64 ((q : Nat) : Int), .pointer (some ⟨p8_6, 2, none⟩), .pointer (some ⟨p8_6, 34, none⟩), .pointer (some ⟨p8_6, 34 + q, none⟩), .int .u8 (byt ex q), .int .u8 (IntKind.wrap .u8 (2 ^ m)), .int .u8 (bits .xor .u8 (byt ex q) (IntKind.wrap .u8 (2 ^ m))), .pointer (some ⟨p8_6, 2, none⟩), .pointer (some ⟨p8_6, 34, none⟩), .pointer (some ⟨p8_6, 34 + q, none⟩), u_tof3, .agg (arrK .u8 32 (byt U1)), .tuple #[.agg (arrK .u8 32 (byt c0)), .bool c1, .int .i64 (c2 : Int)], .agg (arrK .u8 32 (byt U1)), .agg (arrK .u8 32 (byt k)), .agg (pfc (.slice A_5 ss.length c_5) et ea y2), .tuple #[.agg (arrK .u8 32 (byt c0)), .bool c1, .int .i64 (c2 : Int)], .agg (arrK .u8 32 (byt c0)), .bool c1, .int .i64 (c2 : Int), .tuple #[.agg (arrK .u8 32 (byt c0)), .bool c1, .int .i64 (c2 : Int)], .slice (some ⟨p11_19, 0, none⟩) 32 32, str (lb 32 U1), .agg (arrK .u8 32 (byt k)), .agg (pfc (.slice A_5 ss.length c_5) et ea y2), .agg (pfc (.slice A_5 ss.length c_5) et ea y2), .tuple #[.agg (arrK .u8 32 (byt c0)), .bool c1, .int .i64 (c2 : Int)], .agg (arrK .u8 32 (byt c0)), .bool c1, .int .i64 (c2 : Int), undef, undef, undef, undef, undef, undef, undef, undef, undef, undef, undef, undef, undef], defers := [] } ∧ SH [] w w_ [.b j16_0 (arrK .u8 32 (byt c0)) 22, .r 30 64 u_fw2 (List.map lfl L), .r 22 32 (.slice A_5 ss.length c_5) (List.map b32l ss), .b p11_19 (arrK .u8 32 (byt U1)) 22, .b p12_20 (arrK .u8 32 (byt c0)) 22, .b p4_1 (arrK .u8 32 (byt k)) 28, .b p8_6 (pfc (.slice A_5 ss.length c_5) et ea y2) 69, .t 105 (fun W => TA W (ofT L) u_tof3)]) ?_ ?_
   ·
    skip
    refine RTh (.q 0 (.q 1 (.q 2 (.q 3 (.b 4 (.b 5 (.q 6 (.q 7 (.q 8 (.q 9 (.e 10 (.e 11 (.q 12 (.q 13 .z)))))))) 10 (.e 5 (.q 6 (.q 7 (.q 8 (.q 9 (.e 11 (.q 12 (.q 13 .z))))))))) 10 (.e 4 (.e 5 (.q 6 (.q 7 (.q 8 (.q 9 (.e 11 (.q 12 (.q 13 .z)))))))))))))) hS ?_
    clear hS
    refine TW ?_ (v := .slice (some ⟨p11_19, 0, none⟩) 32 32)
    refine TF (v := str (lb 32 U1)) rfl (fun W hS => run_cvs (sl_part (V := U1) (n := 32) (off := 0) (c := 32) (hS.blk (i := 1) rfl) ap0 (by decide) (by decide)) rfl rfl) ?_
    refine TL 6 ?_
    refine TL 2 ?_ (hs := by rw [pf_size]; kernel_rfl)
    refine TB (fun _ h => h) ?_ ?_
    ·
     skip
     refine MC (v := .agg (pfc (.slice A_5 ss.length c_5) et ea y2)) (fun W hS => pfrom_c et ea y2 W) ?_
     refine TNh (fun W hS => hS) ?_
     refine TB (fun _ h => h) ?_ ?_
     ·
      skip
      refine MC (v := .tuple #[.agg (arrK .u8 32 (byt c0)), .bool c1, .int .i64 (c2 : Int)]) (fun W hS => (by have h_ := rCheck_c hr (R := U1) (k := k) (th := et) (x := y2) (by rw [HU1.out]; exact rs_lt _) hk hea (by first | omega | (rw [List.length_set]; omega)) W (GT_ext hG hS.ext) (hS.row (i := 3) rfl).rr; rw [HC.out] at h_; exact h_)) ?_
      refine TNh (fun W hS => hS) ?_
      refine TV ?_
      refine TV ?_
      refine TW ?_ (v := .bool c1)
      refine TV ?_
      refine TE (fun _ h => h) ?_
      refine MN (z := arrK .u8 32 (byt 0)) (t := 22) ?_
      intro p15_21
      refine TNp [1, 2, 3, 4, 5, 6, 7] [0, 1, 2, 3, 4, 5, 6] ?_
      refine TE (fun _ h => h.pick [1, 2, 3, 4, 5, 6, 7]) ?_
      refine MR 0 ?_ 
      refine TNp [1, 2, 3, 4, 5, 6, 7] [0, 1, 2, 3, 4, 5, 6] ?_
      refine TW ?_ (v := .bool c1)
      refine TV ?_
      refine TZ (fun _ h => h.pick [1, 2, 3, 4, 5, 6, 7]) fun W hS => ?_
      exact ⟨p15_21, rfl, hS.pick [0, 6, 4, 2, 1, 7, 3, 5]⟩
     ·
      skip
      refine MN (z := arrK .u8 32 (byt 0)) (t := 22) ?_
      intro p15_22
      refine TNp [1, 2, 3, 4, 5, 6, 7] [0, 1, 2, 3, 4, 5, 6] ?_
      refine TE (fun _ h => h.pick [1, 2, 3, 4, 5, 6, 7]) ?_
      refine MC (v := .tuple #[.agg (arrK .u8 32 (byt c0)), .bool c1, .int .i64 (c2 : Int)]) (fun W hS => (by have h_ := rCheck_c hr (R := U1) (k := k) (th := et) (x := y2) (by rw [HU1.out]; exact rs_lt _) hk hea (by first | omega | (rw [List.length_set]; omega)) W (GT_ext hG hS.ext) (hS.row (i := 4) rfl).rr; rw [HC.out] at h_; exact h_)) ?_
      refine TNp [1, 2, 3, 4, 5, 6, 7] [0, 1, 2, 3, 4, 5, 6] ?_
      refine TV ?_
      refine TV ?_
      refine TW ?_ (v := .bool c1)
      refine TV ?_
      refine TE (fun _ h => h.pick [1, 2, 3, 4, 5, 6, 7]) ?_
      refine MR 0 ?_ 
      refine TNp [1, 2, 3, 4, 5, 6, 7] [0, 1, 2, 3, 4, 5, 6] ?_
      refine TW ?_ (v := .bool c1)
      refine TV ?_
      refine TZ (fun _ h => h.pick [1, 2, 3, 4, 5, 6, 7]) fun W hS => ?_
      exact ⟨p15_22, rfl, hS.pick [0, 6, 4, 2, 1, 7, 3, 5]⟩
    ·
     skip
     refine MN (z := arrK .u8 32 (byt 0)) (t := 22) ?_
     intro p15_23
     refine TNp [1, 2, 3, 4, 5, 6, 7] [0, 1, 2, 3, 4, 5, 6] ?_
     refine TE (fun _ h => h.pick [1, 2, 3, 4, 5, 6, 7]) ?_
     refine MC (v := .agg (pfc (.slice A_5 ss.length c_5) et ea y2)) (fun W hS => pfrom_c et ea y2 W) ?_
     refine TNp [1, 2, 3, 4, 5, 6, 7] [0, 1, 2, 3, 4, 5, 6] ?_
     refine TE (fun _ h => h.pick [1, 2, 3, 4, 5, 6, 7]) ?_
     refine MC (v := .tuple #[.agg (arrK .u8 32 (byt c0)), .bool c1, .int .i64 (c2 : Int)]) (fun W hS => (by have h_ := rCheck_c hr (R := U1) (k := k) (th := et) (x := y2) (by rw [HU1.out]; exact rs_lt _) hk hea (by first | omega | (rw [List.length_set]; omega)) W (GT_ext hG hS.ext) (hS.row (i := 4) rfl).rr; rw [HC.out] at h_; exact h_)) ?_
     refine TNp [1, 2, 3, 4, 5, 6, 7] [0, 1, 2, 3, 4, 5, 6] ?_
     refine TV ?_
     refine TV ?_
     refine TW ?_ (v := .bool c1)
     refine TV ?_
     refine TE (fun _ h => h.pick [1, 2, 3, 4, 5, 6, 7]) ?_
     refine MR 0 ?_ 
     refine TNp [1, 2, 3, 4, 5, 6, 7] [0, 1, 2, 3, 4, 5, 6] ?_
     refine TW ?_ (v := .bool c1)
     refine TV ?_
     refine TZ (fun _ h => h.pick [1, 2, 3, 4, 5, 6, 7]) fun W hS => ?_
     exact ⟨p15_23, rfl, hS.pick [0, 6, 4, 2, 1, 7, 3, 5]⟩
   rintro _ W ⟨j16_0, rfl, hS⟩
   go_upto_region 17 with fail
   refine RL hS ?_
   clear hS
   refine ML 4 ?_
   refine ML 0 ?_
   refine MW ?_ (v := .bool true) (hv := fun _ => run_eqlA ((fun w => eqS32 rfl w) _) (by kernel_rfl) rfl rfl rfl)
   refine MW ?_ (v := .bool true)
   refine MW ?_ (v := .bool c1)
   refine MW ?_ (v := .bool c1)
   refine MW ?_ (v := .bool true) (hv := by intro W; first | (go_simp; done) | (go_simp; with_reducible rfl) | (go_simp; omega))
   refine MW ?_ (v := .bool true)
   refine MW ?_ (v := .bool true)
   refine MV ?_
   refine MV ?_
   refine MW ?_ (v := .bool true) (hv := by intro W; first | (go_simp; done) | (go_simp; with_reducible rfl) | (go_simp; omega))
   refine MW ?_ (v := .bool true)
   refine MW ?_ (v := .bool true)
   refine MZ fun W hS => ?_
   go_wp2
   exact bodyPost_ret (v := .bool true) (by simp only [results, Tryd.results10]; go_simp) rfl ⟨rfl, hS.ext⟩
 ·
  have _f := True.intro
  go_upto_region 8 with fail
  refine RL hS ?_
  clear hS
  refine MV ?_
  refine MV ?_
  refine MG 0 ?_ (v := (.slice A_5 ss.length c_5)) (hj := pf_s)
  refine MF (v := .int .i64 ((List.map b32l ss).length : Int)) (fun W hS => run_lenR (hS.row (i := 1) rfl) rfl rfl Tryd.underlying58) ?_
  refine MW ?_ (v := .int .i64 ((32 * ss.length : Nat) : Int)) (hv := by intro W; have h0_ : (0 : Int) ≤ at_ % 18446744073709551616 := (by omega); go_simp; (try simp only [IntKind.wrap_u64, IntKind.wrap_i64]); (try rw [Int.tmod_eq_emod_of_nonneg (by omega)]); (try rw [Int.tdiv_eq_ediv_of_nonneg (by omega)]); (try rw [if_neg (by omega)]); (try omega))
  refine MW ?_ (v := .bool false) (hv := by intro W; go_simp; (try omega))
  refine MW ?_ (v := .bool false)
  refine MZ fun W hS => ?_
  go_upto_region 10 with fail
  refine RL hS ?_
  clear hS
  refine MV ?_
  refine MV ?_
  refine MG 0 ?_ (v := (.slice A_5 ss.length c_5)) (hj := pf_s)
  refine MF (v := .int .i64 ((List.map b32l ss).length : Int)) (fun W hS => run_lenR (hS.row (i := 1) rfl) rfl rfl Tryd.underlying58) ?_
  refine MW ?_ (v := .int .i64 ((32 * ss.length : Nat) : Int)) (hv := by intro W; have h0_ : (0 : Int) ≤ at_ % 18446744073709551616 := (by omega); go_simp; (try simp only [IntKind.wrap_u64, IntKind.wrap_i64]); (try rw [Int.tmod_eq_emod_of_nonneg (by omega)]); (try rw [Int.tdiv_eq_ediv_of_nonneg (by omega)]); (try rw [if_neg (by omega)]); (try omega))
  refine MW ?_ (v := .int .i64 ((32 * ss.length + 32 : Nat) : Int)) (hv := by intro W; have h0_ : (0 : Int) ≤ at_ % 18446744073709551616 := (by omega); go_simp; (try simp only [IntKind.wrap_u64, IntKind.wrap_i64]); (try rw [Int.tmod_eq_emod_of_nonneg (by omega)]); (try rw [Int.tdiv_eq_ediv_of_nonneg (by omega)]); (try rw [if_neg (by omega)]); (try omega))
  refine MW ?_ (v := .bool false) (hv := by intro W; go_simp; (try omega))
  refine MW ?_ (v := .bool false)
  refine MZ fun W hS => ?_
  go_upto_region 12 with fail
  refine RL hS ?_
  clear hS
  refine MV ?_
  refine MV ?_
  refine MG 0 ?_ (v := (.slice A_5 ss.length c_5)) (hj := pf_s)
  refine MF (v := .int .i64 ((List.map b32l ss).length : Int)) (fun W hS => run_lenR (hS.row (i := 1) rfl) rfl rfl Tryd.underlying58) ?_
  refine MW ?_ (v := .int .i64 ((32 * ss.length : Nat) : Int)) (hv := by intro W; have h0_ : (0 : Int) ≤ at_ % 18446744073709551616 := (by omega); go_simp; (try simp only [IntKind.wrap_u64, IntKind.wrap_i64]); (try rw [Int.tmod_eq_emod_of_nonneg (by omega)]); (try rw [Int.tdiv_eq_ediv_of_nonneg (by omega)]); (try rw [if_neg (by omega)]); (try omega))
  refine MW ?_ (v := .int .i64 ((32 * ss.length + 64 : Nat) : Int)) (hv := by intro W; have h0_ : (0 : Int) ≤ at_ % 18446744073709551616 := (by omega); go_simp; (try simp only [IntKind.wrap_u64, IntKind.wrap_i64]); (try rw [Int.tmod_eq_emod_of_nonneg (by omega)]); (try rw [Int.tdiv_eq_ediv_of_nonneg (by omega)]); (try rw [if_neg (by omega)]); (try omega))
  refine MW ?_ (v := .bool false) (hv := by intro W; go_simp; (try omega))
  refine MW ?_ (v := .bool false)
  refine MZ fun W hS => ?_
  go_upto_region 7 with fail
  refine RL hS ?_
  clear hS
  refine MV ?_
  refine MG 0 ?_ (v := .bool et) (hj := pf_t)
  refine MW ?_ (v := .bool (!et)) (hv := by intro W; go_simp)
  refine MV ?_
  refine MP 0 (v := .bool (!et)) (cs' := pfc (.slice A_5 ss.length c_5) (!et) ea ex) ?_ (hs := by rw [pf_size]; decide) (hc := pf_putt)
  refine MZ fun W hS => ?_
  go_upto_region 14 with fail
  refine RL hS ?_
  clear hS
  refine MV ?_
  obtain ⟨U1, hU1⟩ := exn (rs (ofT L))
  have HU1 := Lib.hid hU1
  clear hU1
  refine MC (v := .agg (arrK .u8 32 (byt U1))) (fun W hS => (by rw [HU1.out]; exact root_c W (GT_ext hG hS.ext) (hS.tt (i := 2) rfl))) ?_
  refine MN (z := arrK .u8 32 (byt 0)) (t := 22) ?_
  intro p11_24
  refine MR 0 ?_ 
  refine MZ fun W hS => ?_
  ·
   have _f := True.intro
   obtain ⟨c0, c1, c2, hc⟩ : ∃ u v z, chk U1 k ss (!et) ea ex = (u, v, z) := ⟨_, _, _, rfl⟩
   have HC := Lib.hid hc
   clear hc
   go_upto_region 15 with fail
   refine RL hS ?_
   clear hS
   refine ML 0 ?_
   refine ML 5 ?_
   refine ML 1 ?_ (hs := by rw [pf_size]; kernel_rfl)
   refine MC (v := .tuple #[.agg (arrK .u8 32 (byt c0)), .bool c1, .int .i64 (c2 : Int)]) (fun W hS => (by have h_ := check_c (R := U1) (k := k) (th := (!et)) (x := ex) (by rw [HU1.out]; exact rs_lt _) hk hea (by first | omega | (rw [List.length_set]; omega)) W (GT_ext hG hS.ext) (hS.row (i := 2) rfl).rr; rw [HC.out] at h_; exact h_)) ?_
   refine MV ?_
   refine MV ?_
   refine MW ?_ (v := .bool c1)
   refine MV ?_
   refine MN (z := arrK .u8 32 (byt 0)) (t := 22) ?_
   intro p12_25
   refine MR 0 ?_ 
   refine MW ?_ (v := .bool c1)
   refine MV ?_
   refine MZ fun W hS => ?_
   go_upto_region 16 with fail
   refine RJ (R := fun a_ w_ => ∃ (j16_0 : Nat), a_ = { tmps := #[u0, .agg (arrK .u8 32 (byt k)), .int .i64 at_, undef, .pointer (some ⟨p4_1, 0, none⟩), undef, .bool false, u_tof3, .pointer (some ⟨p8_6, 0, none⟩), .int .i64 ((n : Nat) : Int), .int .u8 (IntKind.wrap .u8 (2 ^ m)), .pointer (some ⟨p11_24, 0, none⟩), .pointer (some ⟨p12_25, 0, none⟩), .bool c1, .int .i64 (c2 : Int), .pointer (some ⟨j16_0, 0, none⟩), .bool c1, .int .i64 (c2 : Int), u0, u_fw2, u_tof3, u_tof3, .agg (arrK .u8 32 (byt k)), .agg (pfc (.slice A_5 ss.length c_5) et ea ex), .bool true, .bool false, .int .i64 at_, .int .u64 (at_ % 18446744073709551616), .int .u64 ((at_ % 18446744073709551616) / 8), .pointer (some ⟨p8_6, 0, none⟩), (.slice A_5 ss.length c_5), .int .i64 ((List.map b32l ss).length : Int), .int .i64 ((32 * ss.length : Nat) : Int), .int .i64 ((32 * ss.length + 65 : Nat) : Int), .int .u64 ((32 * ss.length + 65 : Nat) : Int), .int .u64 (n : Int), .int .i64 ((n : Nat) : Int), .int .i64 at_, .int .u64 (at_ % 18446744073709551616), .int .u64 (m : Int), .int .u8 (IntKind.wrap .u8 (2 ^ m)), .pointer (some ⟨p8_6, 1, none⟩), .bool et, .bool (!et), .pointer (some ⟨p8_6, 1, none⟩), .bool false, .int .i64 ((n : Nat) : Int), .pointer (some ⟨p8_6, 0, none⟩), (.slice A_5 ss.length c_5), .int .i64 ((List.map b32l ss).length : Int), .int .i64 ((32 * ss.length : Nat) : Int), .bool false, undef, undef, undef, undef, undef, undef, undef, undef, undef, undef, undef, undef, undef, .bool false, .int .i64 ((n : Nat) : Int), .pointer (some ⟨p8_6, 0, none⟩), (.slice A_5 ss.length c_5), .int .i64 ((List.map b32l ss).length : Int), .int .i64 ((32 * ss.length : Nat) : Int), .int .i64 ((32 * ss.length + 32 : Nat) : Int), .bool false, undef, undef, undef, undef, undef, undef, undef, undef, undef, undef, undef, undef, undef, undef, undef, .bool false, .int .i64 ((n : Nat) : Int), .pointer (some ⟨p8_6, 0, none⟩), (.slice A_5 ss.length c_5), .int .i64 ((List.map b32l ss).length : Int), .int .i64 ((32 * ss.length : Nat) : Int), .int .i64 ((32 * ss.length + 64 : Nat) : Int), .bool false, undef, undef, undef, undef, undef, undef, undef, undef, undef, undef, undef, undef, undef, undef, undef, undef, u_tof3, .agg (arrK .u8 32 (byt U1)), .tuple #[.agg (arrK .u8 32 (byt c0)), .bool c1, .int .i64 (c2 : Int)], .agg (arrK .u8 32 (byt U1)), .agg (arrK .u8 32 (byt k)), .agg (pfc (.slice A_5 ss.length c_5) (!et) ea ex), .tuple #[.agg (arrK .u8 32 (byt c0)), .bool c1, .int .i64 (c2 : Int)], .agg (arrK .u8 32 (byt c0)), .bool c1, .int .i64 (c2 : Int), .tuple #[.agg (arrK .u8 32 (byt c0)), .bool c1, .int .i64 (c2 : Int)], .slice (some ⟨p11_24, 0, none⟩) 32 32, str (lb 32 U1), .agg (arrK .u8 32 (byt k)), .agg (pfc (.slice A_5 ss.length c_5) (!et) ea ex), .agg (pfc (.slice A_5 ss.length c_5) (!et) ea ex), .tuple #[.agg (arrK .u8 32 (byt c0)), .bool c1, .int .i64 (c2 : Int)], .agg (arrK .u8 32 (byt c0)), .bool c1, .int .i64 (c2 : Int), undef, undef, undef, undef, undef, undef, undef, undef, undef, undef, undef, undef, undef], defers := [] } ∧ SH [] w w_ [.b j16_0 (arrK .u8 32 (byt c0)) 22, .r 30 64 u_fw2 (List.map lfl L), .r 22 32 (.slice A_5 ss.length c_5) (List.map b32l ss), .b p11_24 (arrK .u8 32 (byt U1)) 22, .b p12_25 (arrK .u8 32 (byt c0)) 22, .b p4_1 (arrK .u8 32 (byt k)) 28, .b p8_6 (pfc (.slice A_5 ss.length c_5) (!et) ea ex) 69, .t 105 (fun W => TA W (ofT L) u_tof3)]) ?_ ?_
   ·
    skip
    refine RTh (.q 0 (.q 1 (.q 2 (.q 3 (.b 4 (.b 5 (.q 6 (.q 7 (.q 8 (.q 9 (.e 10 (.e 11 (.q 12 (.q 13 .z)))))))) 10 (.e 5 (.q 6 (.q 7 (.q 8 (.q 9 (.e 11 (.q 12 (.q 13 .z))))))))) 10 (.e 4 (.e 5 (.q 6 (.q 7 (.q 8 (.q 9 (.e 11 (.q 12 (.q 13 .z)))))))))))))) hS ?_
    clear hS
    refine TW ?_ (v := .slice (some ⟨p11_24, 0, none⟩) 32 32)
    refine TF (v := str (lb 32 U1)) rfl (fun W hS => run_cvs (sl_part (V := U1) (n := 32) (off := 0) (c := 32) (hS.blk (i := 1) rfl) ap0 (by decide) (by decide)) rfl rfl) ?_
    refine TL 6 ?_
    refine TL 2 ?_ (hs := by rw [pf_size]; kernel_rfl)
    refine TB (fun _ h => h) ?_ ?_
    ·
     skip
     refine MC (v := .agg (pfc (.slice A_5 ss.length c_5) (!et) ea ex)) (fun W hS => pfrom_c (!et) ea ex W) ?_
     refine TNh (fun W hS => hS) ?_
     refine TB (fun _ h => h) ?_ ?_
     ·
      skip
      refine MC (v := .tuple #[.agg (arrK .u8 32 (byt c0)), .bool c1, .int .i64 (c2 : Int)]) (fun W hS => (by have h_ := rCheck_c hr (R := U1) (k := k) (th := (!et)) (x := ex) (by rw [HU1.out]; exact rs_lt _) hk hea (by first | omega | (rw [List.length_set]; omega)) W (GT_ext hG hS.ext) (hS.row (i := 3) rfl).rr; rw [HC.out] at h_; exact h_)) ?_
      refine TNh (fun W hS => hS) ?_
      refine TV ?_
      refine TV ?_
      refine TW ?_ (v := .bool c1)
      refine TV ?_
      refine TE (fun _ h => h) ?_
      refine MN (z := arrK .u8 32 (byt 0)) (t := 22) ?_
      intro p15_26
      refine TNp [1, 2, 3, 4, 5, 6, 7] [0, 1, 2, 3, 4, 5, 6] ?_
      refine TE (fun _ h => h.pick [1, 2, 3, 4, 5, 6, 7]) ?_
      refine MR 0 ?_ 
      refine TNp [1, 2, 3, 4, 5, 6, 7] [0, 1, 2, 3, 4, 5, 6] ?_
      refine TW ?_ (v := .bool c1)
      refine TV ?_
      refine TZ (fun _ h => h.pick [1, 2, 3, 4, 5, 6, 7]) fun W hS => ?_
      exact ⟨p15_26, rfl, hS.pick [0, 6, 4, 2, 1, 7, 3, 5]⟩
     ·
      skip
      refine MN (z := arrK .u8 32 (byt 0)) (t := 22) ?_
      intro p15_27
      refine TNp [1, 2, 3, 4, 5, 6, 7] [0, 1, 2, 3, 4, 5, 6] ?_
      refine TE (fun _ h => h.pick [1, 2, 3, 4, 5, 6, 7]) ?_
      refine MC (v := .tuple #[.agg (arrK .u8 32 (byt c0)), .bool c1, .int .i64 (c2 : Int)]) (fun W hS => (by have h_ := rCheck_c hr (R := U1) (k := k) (th := (!et)) (x := ex) (by rw [HU1.out]; exact rs_lt _) hk hea (by first | omega | (rw [List.length_set]; omega)) W (GT_ext hG hS.ext) (hS.row (i := 4) rfl).rr; rw [HC.out] at h_; exact h_)) ?_
      refine TNp [1, 2, 3, 4, 5, 6, 7] [0, 1, 2, 3, 4, 5, 6] ?_
      refine TV ?_
      refine TV ?_
      refine TW ?_ (v := .bool c1)
      refine TV ?_
      refine TE (fun _ h => h.pick [1, 2, 3, 4, 5, 6, 7]) ?_
      refine MR 0 ?_ 
      refine TNp [1, 2, 3, 4, 5, 6, 7] [0, 1, 2, 3, 4, 5, 6] ?_
      refine TW ?_ (v := .bool c1)
      refine TV ?_
      refine TZ (fun _ h => h.pick [1, 2, 3, 4, 5, 6, 7]) fun W hS => ?_
      exact ⟨p15_27, rfl, hS.pick [0, 6, 4, 2, 1, 7, 3, 5]⟩
    ·
     skip
     refine MN (z := arrK .u8 32 (byt 0)) (t := 22) ?_
     intro p15_28
     refine TNp [1, 2, 3, 4, 5, 6, 7] [0, 1, 2, 3, 4, 5, 6] ?_
     refine TE (fun _ h => h.pick [1, 2, 3, 4, 5, 6, 7]) ?_
     refine MC (v := .agg (pfc (.slice A_5 ss.length c_5) (!et) ea ex)) (fun W hS => pfrom_c (!et) ea ex W) ?_
     refine TNp [1, 2, 3, 4, 5, 6, 7] [0, 1, 2, 3, 4, 5, 6] ?_
     refine TE (fun _ h => h.pick [1, 2, 3, 4, 5, 6, 7]) ?_
     refine MC (v := .tuple #[.agg (arrK .u8 32 (byt c0)), .bool c1, .int .i64 (c2 : Int)]) (fun W hS => (by have h_ := rCheck_c hr (R := U1) (k := k) (th := (!et)) (x := ex) (by rw [HU1.out]; exact rs_lt _) hk hea (by first | omega | (rw [List.length_set]; omega)) W (GT_ext hG hS.ext) (hS.row (i := 4) rfl).rr; rw [HC.out] at h_; exact h_)) ?_
     refine TNp [1, 2, 3, 4, 5, 6, 7] [0, 1, 2, 3, 4, 5, 6] ?_
     refine TV ?_
     refine TV ?_
     refine TW ?_ (v := .bool c1)
     refine TV ?_
     refine TE (fun _ h => h.pick [1, 2, 3, 4, 5, 6, 7]) ?_
     refine MR 0 ?_ 
     refine TNp [1, 2, 3, 4, 5, 6, 7] [0, 1, 2, 3, 4, 5, 6] ?_
     refine TW ?_ (v := .bool c1)
     refine TV ?_
     refine TZ (fun _ h => h.pick [1, 2, 3, 4, 5, 6, 7]) fun W hS => ?_
     exact ⟨p15_28, rfl, hS.pick [0, 6, 4, 2, 1, 7, 3, 5]⟩
   rintro _ W ⟨j16_0, rfl, hS⟩
   go_upto_region 17 with fail
   refine RL hS ?_
   clear hS
   refine ML 4 ?_
   refine ML 0 ?_
   refine MW ?_ (v := .bool true) (hv := fun _ => run_eqlA ((fun w => eqS32 rfl w) _) (by kernel_rfl) rfl rfl rfl)
   refine MW ?_ (v := .bool true)
   refine MW ?_ (v := .bool c1)
   refine MW ?_ (v := .bool c1)
   refine MW ?_ (v := .bool true) (hv := by intro W; first | (go_simp; done) | (go_simp; with_reducible rfl) | (go_simp; omega))
   refine MW ?_ (v := .bool true)
   refine MW ?_ (v := .bool true)
   refine MV ?_
   refine MV ?_
   refine MW ?_ (v := .bool true) (hv := by intro W; first | (go_simp; done) | (go_simp; with_reducible rfl) | (go_simp; omega))
   refine MW ?_ (v := .bool true)
   refine MW ?_ (v := .bool true)
   refine MZ fun W hS => ?_
   go_wp2
   exact bodyPost_ret (v := .bool true) (by simp only [results, Tryd.results10]; go_simp) rfl ⟨rfl, hS.ext⟩
end Go.Proofs.YtndnlbinnhdmbaaDoor
