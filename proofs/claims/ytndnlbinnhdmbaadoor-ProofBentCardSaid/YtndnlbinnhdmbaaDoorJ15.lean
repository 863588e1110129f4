/- Trees: the sums of which all is made, the program's and the document's. Conditions: the tables hold their numbers. bits of a key. Conditions: the bit's number is below 256, the key's parts are bytes. how many bits two keys begin with alike: the document's. Conditions: the keys' parts are bytes. -/
import Derived.Test.YtndnlbinnhdmbaaDoorSqI
import Derived.Test.YtndnlbinnhdmbaaDoorSqJ
import Derived.Test.YtndnlbinnhdmbaaDoorGc
import Derived.Test.YtndnlbinnhdmbaaDoorJ10
set_option linter.unusedSimpArgs false
set_option linter.unusedVariables false
namespace Go.Proofs.YtndnlbinnhdmbaaDoor
set_option maxHeartbeats 1500000
set_option maxRecDepth 100000
open Go.RowKit
attribute [local irreducible] wpList wpTr wpX
set_option linter.unusedSimpArgs false
/-- what is laid: sha2's tables; the document's, if asked -/
def GT (hr : Prop) (w : World) : Prop := GS4 w ∧ (hr → GR4 w)
theorem GT_ext {q : Prop} {w W : World} (h : GT q w) (e : Ext w W) : GT q W := ⟨GS_ext4 h.1 e, fun x => GR_ext4 (h.2 x) e⟩
/-- a leaf's cells -/
def lf (k v : Nat) : Array Value := arrK .u8 32 (byt k) ++ arrK .u8 32 (byt v)
section
variable {k v : Nat}
theorem lf_size : (lf k v).size = 64 := by unfold lf; rw [Array.size_append, arrK_size, arrK_size]
theorem lf_one : (lf k v).all (·.oneCell') = true := by unfold lf; rw [Array.all_append, arrK_one, arrK_one]; rfl
theorem lf_k : ∀ i u, (arrK .u8 32 (byt k))[i]? = some u → (lf k v)[0 + i]? = some u := fun i u h => by rw [Nat.zero_add]; exact app_l h
theorem lf_v : ∀ i u, (arrK .u8 32 (byt v))[i]? = some u → (lf k v)[32 + i]? = some u := fun i u h => app_r (arrK_size _ _ _) h
end
/-- two bytes of a depth -/
def db (d : Int) : List UInt8 := [UInt8.ofNat (d / 256 % 256).toNat, UInt8.ofNat (d % 256).toNat]
theorem dbl (d : Int) : (db d).length = 2 := rfl
theorem ofN_cast {x : Int} (h0 : 0 ≤ x) (h1 : x < 256) : ((UInt8.ofNat x.toNat).toNat : Int) = x := by rw [UInt8.toNat_ofNat', Nat.mod_eq_of_lt (by omega)]; omega
theorem db_hi (d : Int) : IntKind.wrap .u8 (d / 256) = ((UInt8.ofNat (d / 256 % 256).toNat).toNat : Int) := by rw [ofN_cast (by omega) (by omega), IntKind.wrap_u8]
theorem db_lo (d : Int) : IntKind.wrap .u8 d = ((UInt8.ofNat (d % 256).toNat).toNat : Int) := by rw [ofN_cast (by omega) (by omega), IntKind.wrap_u8]
/-- the sums of which all is made -/
def sE : Nat := hs4 [2]
def sL (k v : Nat) : Nat := hs4 ([0] ++ lb 32 k ++ lb 32 v)
def sN (d : Int) (l r : Nat) : Nat := hs4 ([1] ++ db d ++ lb 32 l ++ lb 32 r)
theorem sumN4_c {H : Nat} {F : List UInt8} (hH : H = hs4 F) (ps : List (List UInt8)) (A : Option Addr) (c : Nat) (hF : ps.flatten = F) (hlen : F.length ≤ 70368744177664) (hpn : ps.length ≤ 9223372036854775000) (w : World) (hps : ∀ i l, ps[i]? = some l → ∃ ad u, A = some ad ∧ w.cell? (ad.add i) = some u ∧ Sl w u l) (hG : GS4 w) :
  Calls Tryd.prog 56 #[.slice A ps.length c] w fun e w' => Ret (.agg (arrK .u8 32 (byt H))) w w' e := by
 rw [hH, ← sm_hs4]; exact sum4_c ps A c F hF hlen hpn w hps hG
theorem rsumN4_c {H : Nat} {l : List UInt8} (hH : H = hs4 l) (hlen : l.length ≤ 70368744177664) (w : World) (hG : GR4 w) : Calls Tryd.prog 40 #[str l] w fun e w' => Ret (str (lb 32 H)) w w' e := by
 rw [hH, ← smb_hs4]; exact rsum4_c l hlen w hG
attribute [local irreducible] hs4

theorem empty_c {q : Prop} (w : World) (hG : GT q w) :
  Calls Tryd.prog 14 #[] w fun e w' => Ret (.agg (arrK .u8 32 (byt sE))) w w' e := by
 have hS := SH.nil [] w
 go_enter Tryd.func14, Tryd.ntmps14
 go_upto_region 0 with fail
 refine RL hS ?_
 clear hS
 refine MN (z := arrK .u8 32 (byt 0)) (t := 22) ?_
 intro p0_1
 refine MZ fun W hS => ?_
 go_upto_region 1 with fail
 refine RL hS ?_
 clear hS
 refine MO (m := [2]) (n := 1) (z := #[.int .u8 2]) ?_
 intro v1_2
 refine MB (z := #[v1_2]) (t := 33) (n := 1) (c := 1) ?_ (hr := fun W hS => run_bsv [v1_2] rfl rfl (vsc (sl_cells (hS.osl (i := 0) rfl)).1 vs0) Tryd.underlying77 (by kernel_rfl) (by kernel_rfl) rfl (by decide) (by decide))
 intro p2_3
 obtain ⟨U1, hU1⟩ := exn (hs4 ([2]))
 have HU1 := Lib.hid hU1
 clear hU1
 refine MC (v := .agg (arrK .u8 32 (byt U1))) (fun W hS => sumN4_c HU1.out [[2]] (some ⟨p2_3, 0, none⟩) 1 (by simp only [List.flatten_cons, List.flatten_nil, List.append_nil, List.nil_append, List.append_assoc, List.cons_append]) (by first | omega | (simp only [List.length_append, List.length_cons, List.length_nil, lb_length, dbl]; omega)) (by simp) W (pss_blk (hS.blk (i := 0) rfl) (pvc (hS.osl (i := 1) rfl) pv0)) (GS_ext4 hG.1 hS.ext)) ?_
 refine MR 2 ?_ 
 refine MZ fun W hS => ?_
 have e_ := HU1.out
 subst e_
 go_wp2
 exact bodyPost_ret (res_row rfl rfl (hS.blk (i := 2) rfl) (by kernel_rfl) (by rw [arrK_size]; kernel_rfl)) rfl ⟨rfl, hS.ext⟩
theorem leafSum_c {q : Prop} (k v : Nat) (w : World) (hG : GT q w) :
  Calls Tryd.prog 15 #[.agg (lf k v)] w fun e w' => Ret (.agg (arrK .u8 32 (byt (sL k v)))) w w' e := by
 have hS := SH.nil [] w
 go_enter Tryd.func15, Tryd.ntmps15
 go_upto_region 0 with fail
 refine RL hS ?_
 clear hS
 refine MN (z := lf k v) (t := 30) ?_
 intro p1_1
 refine MN (z := arrK .u8 32 (byt 0)) (t := 22) ?_
 intro p2_2
 refine MZ fun W hS => ?_
 go_upto_region 1 with fail
 refine RTp [1] (.q 1 (.q 2 (.q 3 (.q 4 (.e 0 (.e 5 (.e 6 (.e 7 .z)))))))) hS ?_
 clear hS
 refine TV ?_
 refine TW ?_ (v := .slice (some ⟨p1_1, 0, none⟩) 32 32)
 refine TV ?_
 refine TW ?_ (v := .slice (some ⟨p1_1, 32, none⟩) 32 32)
 refine TE (fun _ h => h.pick [1]) ?_
 refine MO (m := [0]) (n := 1) (z := #[.int .u8 0]) ?_
 intro v3_3
 refine TNp [0, 2] [1] ?_
 refine TE (fun _ h => h.pick [0, 2]) ?_
 refine MB (z := #[v3_3, .slice (some ⟨p1_1, 0, none⟩) 32 32, .slice (some ⟨p1_1, 32, none⟩) 32 32]) (t := 33) (n := 3) (c := 3) ?_ (hr := fun W hS => run_bsv [v3_3, .slice (some ⟨p1_1, 0, none⟩) 32 32, .slice (some ⟨p1_1, 32, none⟩) 32 32] rfl rfl (vsc (sl_cells (hS.osl (i := 0) rfl)).1 (vsc rfl (vsc rfl vs0))) Tryd.underlying77 (by kernel_rfl) (by kernel_rfl) rfl (by decide) (by decide))
 intro p8_4
 refine TNp [0, 1, 3] [1, 2] ?_
 refine TE (fun _ h => h.pick [0, 1, 3]) ?_
 obtain ⟨U1, hU1⟩ := exn (hs4 ([0] ++ (lb 32 k) ++ (lb 32 v)))
 have HU1 := Lib.hid hU1
 clear hU1
 refine MC (v := .agg (arrK .u8 32 (byt U1))) (fun W hS => sumN4_c HU1.out [[0], lb 32 k, lb 32 v] (some ⟨p8_4, 0, none⟩) 3 (by simp only [List.flatten_cons, List.flatten_nil, List.append_nil, List.nil_append, List.append_assoc, List.cons_append]) (by first | omega | (simp only [List.length_append, List.length_cons, List.length_nil, lb_length, dbl]; omega)) (by simp) W (pss_blk (hS.blk (i := 0) rfl) (pvc (hS.osl (i := 1) rfl) (pvc (sl_part (V := k) (n := 32) (off := 0) (hS.blk (i := 3) rfl) lf_k (by decide) (by decide)) (pvc (sl_part (V := v) (n := 32) (off := 32) (hS.blk (i := 3) rfl) lf_v (by decide) (by decide)) pv0)))) (GS_ext4 hG.1 hS.ext)) ?_
 refine TNp [0, 1, 3] [0, 1, 2] ?_
 refine TE (fun _ h => h.pick [0, 1, 3]) ?_
 refine MR 2 ?_ 
 refine TNp [0, 1, 3] [0, 1, 2] ?_
 refine TZ (fun _ h => h.pick [0, 1, 3]) fun W hS => ?_
 have e_ := HU1.out
 subst e_
 go_wp2
 exact bodyPost_ret (res_row rfl rfl (hS.blk (i := 2) rfl) (by kernel_rfl) (by rw [arrK_size]; kernel_rfl)) rfl ⟨rfl, hS.ext⟩
theorem nodeSum_c {q : Prop} (d : Int) (l r : Nat) (w : World) (hG : GT q w) :
  Calls Tryd.prog 16 #[.int .i64 d, .agg (arrK .u8 32 (byt l)), .agg (arrK .u8 32 (byt r))] w fun e w' => Ret (.agg (arrK .u8 32 (byt (sN d l r)))) w w' e := by
 have hS := SH.nil [] w
 go_enter Tryd.func16, Tryd.ntmps16
 go_upto_region 0 with fail
 refine RL hS ?_
 clear hS
 refine MN (z := arrK .u8 32 (byt l)) (t := 22) ?_
 intro p4_1
 refine MN (z := arrK .u8 32 (byt r)) (t := 22) ?_
 intro p5_2
 refine MN (z := arrK .u8 32 (byt 0)) (t := 22) ?_
 intro p6_3
 refine MZ fun W hS => ?_
 go_upto_region 1 with fail
 refine RTp [1, 2] (.q 0 (.q 1 (.q 2 (.q 3 (.q 4 (.q 6 (.q 7 (.e 5 (.e 8 (.e 9 (.e 10 .z))))))))))) hS ?_
 clear hS
 refine TV ?_
 refine TW ?_ (v := .int .i64 (d / 256)) (hv := by intro W; exact run_shr_i (n := 8) (by decide) rfl rfl rfl)
 refine TW ?_ (v := .int .u8 ((UInt8.ofNat (d / 256 % 256).toNat).toNat : Int)) (hv := by intro W; rw [← db_hi d]; exact run_c8i rfl rfl)
 refine TV ?_
 refine TW ?_ (v := .int .u8 ((UInt8.ofNat (d % 256).toNat).toNat : Int)) (hv := by intro W; rw [← db_lo d]; exact run_c8i rfl rfl)
 refine TW ?_ (v := .slice (some ⟨p4_1, 0, none⟩) 32 32)
 refine TW ?_ (v := .slice (some ⟨p5_2, 0, none⟩) 32 32)
 refine TE (fun _ h => h.pick [1, 2]) ?_
 refine MO (m := [1, UInt8.ofNat (d / 256 % 256).toNat, UInt8.ofNat (d % 256).toNat]) (n := 3) (z := #[.int .u8 1, .int .u8 ((UInt8.ofNat (d / 256 % 256).toNat).toNat : Int), .int .u8 ((UInt8.ofNat (d % 256).toNat).toNat : Int)]) ?_
 intro v12_4
 refine TNp [0, 2, 3] [1, 2] ?_
 refine TE (fun _ h => h.pick [0, 2, 3]) ?_
 refine MB (z := #[v12_4, .slice (some ⟨p4_1, 0, none⟩) 32 32, .slice (some ⟨p5_2, 0, none⟩) 32 32]) (t := 33) (n := 3) (c := 3) ?_ (hr := fun W hS => run_bsv [v12_4, .slice (some ⟨p4_1, 0, none⟩) 32 32, .slice (some ⟨p5_2, 0, none⟩) 32 32] rfl rfl (vsc (sl_cells (hS.osl (i := 0) rfl)).1 (vsc rfl (vsc rfl vs0))) Tryd.underlying77 (by kernel_rfl) (by kernel_rfl) rfl (by decide) (by decide))
 intro p15_5
 refine TNp [0, 1, 3, 4] [1, 2, 3] ?_
 refine TE (fun _ h => h.pick [0, 1, 3, 4]) ?_
 obtain ⟨U1, hU1⟩ := exn (hs4 ([1, UInt8.ofNat (d / 256 % 256).toNat, UInt8.ofNat (d % 256).toNat] ++ (lb 32 l) ++ (lb 32 r)))
 have HU1 := Lib.hid hU1
 clear hU1
 refine MC (v := .agg (arrK .u8 32 (byt U1))) (fun W hS => sumN4_c HU1.out [[1, UInt8.ofNat (d / 256 % 256).toNat, UInt8.ofNat (d % 256).toNat], lb 32 l, lb 32 r] (some ⟨p15_5, 0, none⟩) 3 (by simp only [List.flatten_cons, List.flatten_nil, List.append_nil, List.nil_append, List.append_assoc, List.cons_append]) (by first | omega | (simp only [List.length_append, List.length_cons, List.length_nil, lb_length, dbl]; omega)) (by simp) W (pss_blk (hS.blk (i := 0) rfl) (pvc (hS.osl (i := 1) rfl) (pvc (sl_part (V := l) (n := 32) (off := 0) (hS.blk (i := 4) rfl) ap0 (by decide) (by decide)) (pvc (sl_part (V := r) (n := 32) (off := 0) (hS.blk (i := 3) rfl) ap0 (by decide) (by decide)) pv0)))) (GS_ext4 hG.1 hS.ext)) ?_
 refine TNp [0, 1, 3, 4] [0, 1, 2, 3] ?_
 refine TE (fun _ h => h.pick [0, 1, 3, 4]) ?_
 refine MR 2 ?_ 
 refine TNp [0, 1, 3, 4] [0, 1, 2, 3] ?_
 refine TZ (fun _ h => h.pick [0, 1, 3, 4]) fun W hS => ?_
 have e_ := HU1.out
 subst e_
 go_wp2
 exact bodyPost_ret (res_row rfl rfl (hS.blk (i := 2) rfl) (by kernel_rfl) (by rw [arrK_size]; kernel_rfl)) rfl ⟨rfl, hS.ext⟩
end Go.Proofs.YtndnlbinnhdmbaaDoor

set_option linter.unusedSimpArgs false
set_option linter.unusedVariables false
namespace Go.Proofs.YtndnlbinnhdmbaaDoor
set_option maxHeartbeats 1500000
set_option maxRecDepth 100000
open Go.RowKit
attribute [local irreducible] wpList
/-- bit i of a key -/
def kbit (f : Nat → Int) (i : Nat) : Int := f (i / 8) / 2 ^ (7 - i % 8) % 2
theorem div_byte {x : Int} {n : Nat} (h : 0 ≤ x ∧ x < 256) : 0 ≤ x / 2 ^ n ∧ x / 2 ^ n < 256 := by
  obtain ⟨a, rfl⟩ := Int.eq_ofNat_of_zero_le h.1
  rw [show ((a : Int) / 2 ^ n) = ((a / 2 ^ n : Nat) : Int) by rw [Int.natCast_ediv, Int.natCast_pow]; rfl]
  have h2 := Nat.div_le_self a (2 ^ n)
  have h3 := h.2
  clear h
  generalize a / 2 ^ n = q at *
  omega
section
variable {w : World} {o : Oper} {a : Act} {x y : Operand} {t t' : TypeId} {p : Int}
theorem run_shr_8 {P : Program} {k : IntKind} {n : Nat} (hn : n ≤ 8) (ho : o.op = .binOp .shr t x y t') (hx : a.eval x = .int .u8 p) (hy : a.eval y = .int k (n : Int)) : (execOp a.eval o).run P w = .ok (.value (.int .u8 (p / 2 ^ n))) w := by
  have h : min ((n : Int)).toNat IntKind.u8.bits = n := by rw [Int.toNat_natCast]; exact Nat.min_eq_left hn
  simp only [execOp, ho, hx, hy, eqGuard, binOp, Sem.run_bind]
  simp [Op.shift, h, go_sem, Sem.run_bind]
theorem run_cv8 (hp : 0 ≤ p ∧ p < 256) (ho : o.op = .convert 5 3 x) (hx : a.eval x = .int .u8 p) : (execOp a.eval o).run Tryd.prog w = .ok (.value (.int .i64 p)) w := by
  have hw : IntKind.wrap .i64 p = p := by rw [IntKind.wrap_i64]; omega
  simp [execOp, ho, hx, convert, run_underlying Tryd.underlying5, run_underlying Tryd.underlying3, Sem.run_bind, Conv.intToInt, hw]
theorem and_one (h : 0 ≤ p ∧ p < 256) : bits .and .i64 p 1 = p % 2 := bits_mask .i64 63 (by decide) wr63 1 (by decide) p h.1 (by omega)
end

theorem within_c (i : Nat) (hi : i < 256) (w : World) :
  Calls Tryd.prog 83 #[.int .i64 (i : Int)] w fun e w' => Ret (.bool true) w w' e := by
 have hi1 : (i : Int) < 256 := by omega
 have hi0 : (0 : Int) ≤ (i : Int) := by omega
 have off0 : Off [] w w := Off.refl _ _
 go_enter Tryd.func83, Tryd.ntmps83
 go_upto_region 1 with fail
 refine wp_region_lit ?_
 refine Lv ?_
 refine Lw ?_ (v := .bool true) (hv := by first | (go_simp; done) | (go_simp; omega))
 refine Lw ?_ (v := .bool true)
 refine Lv ?_
 refine Lw ?_ (v := .bool true) (hv := by first | (go_simp; done) | (go_simp; omega))
 refine Lw ?_ (v := .bool true)
 refine Lw ?_ (v := .bool true)
 refine wpL_nil ?_
 go_wp2
 exact bodyPost_ret (v := .bool true) (by simp only [results, Tryd.results83]; go_simp) rfl ⟨rfl, off0.ext⟩
theorem kbit_c (f : Nat → Int) (hf : ∀ j, 0 ≤ f j ∧ f j < 256) (i : Nat) (hi : i < 256) (w : World) :
  Calls Tryd.prog 61 #[.agg (arrK .u8 32 f), .int .i64 (i : Int)] w fun e w' => Ret (.int .i64 (kbit f i)) w w' e := by
 have hi1 : (i : Int) < 256 := by omega
 have hi0 : (0 : Int) ≤ (i : Int) := by omega
 have hD := div_byte (n := 7 - i % 8) (hf (i / 8))
 have hA := and_one hD
 clear hf
 have off0 : Off [] w w := Off.refl _ _
 go_enter Tryd.func61, Tryd.ntmps61
 go_upto_region 0 with fail
 refine wp_region_lit ?_
 refine Ln ?_ (z := arrK .u8 32 f) (t := 28)
 intro p2_1 W1 n_t2 hO h_
 replace off0 := off0.o hO
 have k_t2 := h_
 clear hO h_ n_t2
 refine Lw ?_ (v := .int .i64 0)
 refine wpL_nil ?_
 go_upto_region 1 with fail
 refine wp_region_lit ?_
 refine Lv ?_
 refine Lr ?_ (within_c i hi W1)
 intro W2 hO
 replace k_t2 := k_t2.o hO
 replace off0 := off0.o hO
 clear hO
 refine Lw ?_ (v := .bool false)
 refine wpL_nil ?_
 go_upto_region 3 with fail
 refine wp_region_lit ?_
 refine Lv ?_
 refine Lw ?_ (v := .int .i64 (((i / 8 : Nat) : Int))) (hv := by go_simp; (try simp only [IntKind.wrap_u64, IntKind.wrap_i64]); (try omega))
 refine Lw ?_ (v := .pointer (some ⟨p2_1, 0 + (i / 8), none⟩)) (hv := run_ixarr (m := 32) (by decide) (by omega) Tryd.underlying28 (by kernel_rfl) rfl rfl rfl)
 refine Lg ?_ k_t2 (v := .int .u8 (f (i / 8))) (hj := by rw [Nat.zero_add]; exact arrK_get _ _ _ _ (by omega))
 refine Lv ?_
 refine Lw ?_ (v := .int .i64 (((i % 8 : Nat) : Int))) (hv := by go_simp; (try rw [Int.tmod_eq_emod_of_nonneg (by omega)]); (try omega))
 refine Lw ?_ (v := .int .i64 (((7 - i % 8 : Nat) : Int))) (hv := by go_simp; (try simp only [IntKind.wrap_u64, IntKind.wrap_i64]); (try omega))
 refine Lw ?_ (v := .int .u8 (f (i / 8) / 2 ^ (7 - i % 8))) (hv := by exact run_shr_8 (n := 7 - i % 8) (by omega) rfl rfl rfl)
 refine Lw ?_ (v := .int .i64 (f (i / 8) / 2 ^ (7 - i % 8))) (hv := by exact run_cv8 hD rfl rfl)
 refine Lw ?_ (v := .int .i64 (kbit f i)) (hv := by unfold kbit; rw [← hA]; exact run_and_i rfl rfl rfl)
 refine Lv ?_
 refine wpL_nil ?_
 go_wp2
 exact bodyPost_ret (v := .int .i64 (kbit f i)) (by simp only [results, Tryd.results61]; go_simp) rfl ⟨rfl, off0.ext⟩
theorem rbit_c (f : Nat → Int) (hf : ∀ j, 0 ≤ f j ∧ f j < 256) (i : Nat) (hi : i < 256) (w : World) :
  Calls Tryd.prog 62 #[.agg (arrK .u8 32 f), .int .i64 (i : Int)] w fun e w' => Ret (.int .i64 (kbit f i)) w w' e := by
 have hi1 : (i : Int) < 256 := by omega
 have hi0 : (0 : Int) ≤ (i : Int) := by omega
 have hD := div_byte (n := 7 - i % 8) (hf (i / 8))
 have hA := and_one hD
 clear hf
 have off0 : Off [] w w := Off.refl _ _
 go_enter Tryd.func62, Tryd.ntmps62
 go_upto_region 0 with fail
 refine wp_region_lit ?_
 refine Ln ?_ (z := arrK .u8 32 f) (t := 22)
 intro p2_1 W1 n_t2 hO h_
 replace off0 := off0.o hO
 have k_t2 := h_
 clear hO h_ n_t2
 refine Lw ?_ (v := .int .i64 0)
 refine wpL_nil ?_
 go_upto_region 1 with fail
 refine wp_region_lit ?_
 refine Lv ?_
 refine Lw ?_ (v := .bool false) (hv := by first | (go_simp; done) | (go_simp; omega))
 refine Lw ?_ (v := .bool false)
 refine Lv ?_
 refine Lw ?_ (v := .bool false) (hv := by first | (go_simp; done) | (go_simp; omega))
 refine Lw ?_ (v := .bool false)
 refine wpL_nil ?_
 go_upto_region 3 with fail
 refine wp_region_lit ?_
 refine Lv ?_
 refine Lw ?_ (v := .int .i64 (((i / 8 : Nat) : Int))) (hv := by go_simp; (try simp only [IntKind.wrap_u64, IntKind.wrap_i64]); (try omega))
 refine Lw ?_ (v := .pointer (some ⟨p2_1, 0 + (i / 8), none⟩)) (hv := run_ixarr (m := 32) (by decide) (by omega) Tryd.underlying22 (by kernel_rfl) rfl rfl rfl)
 refine Lg ?_ k_t2 (v := .int .u8 (f (i / 8))) (hj := by rw [Nat.zero_add]; exact arrK_get _ _ _ _ (by omega))
 refine Lv ?_
 refine Lw ?_ (v := .int .i64 (((i % 8 : Nat) : Int))) (hv := by go_simp; (try rw [Int.tmod_eq_emod_of_nonneg (by omega)]); (try omega))
 refine Lw ?_ (v := .int .i64 (((7 - i % 8 : Nat) : Int))) (hv := by go_simp; (try simp only [IntKind.wrap_u64, IntKind.wrap_i64]); (try omega))
 refine Lw ?_ (v := .int .u8 (f (i / 8) / 2 ^ (7 - i % 8))) (hv := by exact run_shr_8 (n := 7 - i % 8) (by omega) rfl rfl rfl)
 refine Lw ?_ (v := .int .i64 (f (i / 8) / 2 ^ (7 - i % 8))) (hv := by exact run_cv8 hD rfl rfl)
 refine Lw ?_ (v := .int .i64 (kbit f i)) (hv := by unfold kbit; first | (go_simp; done) | (go_simp; (try rw [Int.tmod_eq_emod_of_nonneg hD.1])))
 refine Lv ?_
 refine wpL_nil ?_
 go_wp2
 exact bodyPost_ret (v := .int .i64 (kbit f i)) (by simp only [results, Tryd.results62]; go_simp) rfl ⟨rfl, off0.ext⟩
end Go.Proofs.YtndnlbinnhdmbaaDoor

set_option linter.unusedSimpArgs false
set_option linter.unusedVariables false
namespace Go.Proofs.YtndnlbinnhdmbaaDoor
set_option maxHeartbeats 1500000
set_option maxRecDepth 100000
open Go.RowKit
attribute [local irreducible] wpList
def kcomF (f g : Nat → Int) : Nat → Nat → Nat
  | 0, i => i
  | n + 1, i => if kbit f i = kbit g i then kcomF f g n (i + 1) else i
def kcom (f g : Nat → Int) : Nat := kcomF f g 256 0
theorem kcom_step {f g : Nat → Int} {i : Nat} (h : i < 256) : kcomF f g (256 - i) i = if kbit f i = kbit g i then kcomF f g (256 - (i + 1)) (i + 1) else i := by
  rw [show 256 - i = (256 - (i + 1)) + 1 by omega]; rfl

theorem rcommon_c (f g : Nat → Int) (hf : ∀ j, 0 ≤ f j ∧ f j < 256) (hg : ∀ j, 0 ≤ g j ∧ g j < 256) (w : World) :
  Calls Tryd.prog 65 #[.agg (arrK .u8 32 f), .agg (arrK .u8 32 g)] w fun e w' => Ret (.int .i64 (kcom f g : Int)) w w' e := by
 have off0 : Off [] w w := Off.refl _ _
 go_enter Tryd.func65, Tryd.ntmps65
 go_upto_region 0 with fail
 refine wp_region_lit ?_
 refine Ln ?_ (z := arrK .u8 32 f) (t := 22)
 intro p2_1 W1 n_t2 hO h_
 replace off0 := off0.o hO
 have k_t2 := h_
 clear hO h_ n_t2
 refine Ln ?_ (z := arrK .u8 32 g) (t := 22)
 intro p3_2 W2 n_t3 hO h_
 replace k_t2 := k_t2.o hO
 replace off0 := off0.o hO
 have k_t3 := h_
 clear hO h_ n_t3
 refine Lw ?_ (v := .int .i64 0)
 refine wpL_nil ?_
 go_wp2_with fail
 go_loopw [5] (fun ii wr => ∃ (i : Nat), (i ≤ 256) ∧ (ii = .int .i64 (i : Int)) ∧ (kcom f g = kcomF f g (256 - i) i) ∧ Off [] w wr ∧ Blk wr p2_1 (arrK .u8 32 f) 22 ∧ Blk wr p3_2 (arrK .u8 32 g) 22)
  (fun ii _ => 256 - (intOf ii).toNat)
 case atStart => exact ⟨0, Nat.zero_le _, rfl, rfl, off0, k_t2, k_t3⟩
 case round =>
  obtain ⟨i, hi, rfl, hinv, off0, k_t2, k_t3⟩ := hrel
  obtain ⟨W3, eW_⟩ := wname off0
  subst eW_
  by_cases h256 : i < 256
  ·
   have _f := h256
   go_upto_region 2 with fail
   refine wp_region_lit ?_
   refine Lv ?_
   refine Lw ?_ (v := .bool true)
   refine wpL_nil ?_
   by_cases hz : kbit f i = kbit g i
   ·
    have _f := hz
    have H_hz := Lib.hid hz
    clear hz
    go_upto_region 4 with fail
    refine Rx 7 ?_
    refine XlA ?_ k_t2
    refine Xv ?_
    refine Xf ?_ (fun W hW => rbit_c f hf i h256 W)
    refine XlA ?_ k_t3
    refine Xv ?_
    refine Xf ?_ (fun W hW => rbit_c g hg i h256 W)
    refine Xw ?_ (v := .bool false) (hv := fun _ _ => by have hz := H_hz.out; first | (go_simp; done) | (go_simp; simp [hz]))
    refine wpX_nil fun W4 hE => ?_
    have hO := off_ext hE
    replace k_t2 := k_t2.o hO
    replace k_t3 := k_t3.o hO
    replace off0 := off0.o hO
    clear hO hE
    refine LN ?_
    go_wp2
    go_roundw
    case rel => exact ⟨i + 1, by omega, by go_num, by rw [hinv, kcom_step h256, if_pos H_hz.out], off0, k_t2, k_t3⟩
    case measure => simp [intOf]; omega
   ·
    have _f := hz
    have hres : ((kcom f g : Nat) : Int) = (i : Int) := by rw [hinv, kcom_step h256, if_neg hz]
    have H_hz := Lib.hid hz
    clear hz hinv
    go_upto_region 4 with fail
    refine Rx 7 ?_
    refine XlA ?_ k_t2
    refine Xv ?_
    refine Xf ?_ (fun W hW => rbit_c f hf i h256 W)
    refine XlA ?_ k_t3
    refine Xv ?_
    refine Xf ?_ (fun W hW => rbit_c g hg i h256 W)
    refine Xw ?_ (v := .bool true) (hv := fun _ _ => by have hz := H_hz.out; first | (go_simp; done) | (go_simp; simp [hz]))
    refine wpX_nil fun W4 hE => ?_
    have hO := off_ext hE
    replace off0 := off0.o hO
    clear hO hE
    refine LN ?_
    go_wp2
    exact bodyPost_ret (v := .int .i64 (i : Int)) (by simp only [results, Tryd.results65]; go_simp) rfl ⟨congrArg (fun z : Int => Ending.returned (.int .i64 z)) hres.symm, off0.ext⟩
  ·
   have _f := h256
   obtain rfl : i = 256 := by omega
   have hres : ((kcom f g : Nat) : Int) = 256 := by rw [hinv]; rfl
   clear hinv
   go_upto_region 2 with fail
   refine wp_region_lit ?_
   refine Lv ?_
   refine Lw ?_ (v := .bool false)
   refine wpL_nil ?_
   go_wp2
   exact bodyPost_ret (v := .int .i64 256) (by simp only [results, Tryd.results65]; go_simp) rfl ⟨congrArg (fun z : Int => Ending.returned (.int .i64 z)) hres.symm, off0.ext⟩
/-- the document's order -/
def kless (f g : Nat → Int) : Bool := decide (kcom f g < 256) && decide (kbit f (kcom f g) = 0)
end Go.Proofs.YtndnlbinnhdmbaaDoor
