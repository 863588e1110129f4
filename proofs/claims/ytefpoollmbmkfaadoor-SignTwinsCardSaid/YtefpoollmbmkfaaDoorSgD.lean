/- The document's Spread, Sign, Verify. Conditions: the cells of the sums' tables hold their numbers. -/
import Derived.Test.YtefpoollmbmkfaaDoorGc
import Derived.Test.YtefpoollmbmkfaaDoorSgC
import Derived.Test.YtefpoollmbmkfaaDoorShE
import Derived.Test.YtefpoollmbmkfaaDoorRe
import Derived.Test.YtefpoollmbmkfaaDoorRf
import Derived.Test.YtefpoollmbmkfaaDoorEdQ
import Derived.Test.YtefpoollmbmkfaaDoorEdT
import Derived.Test.YtefpoollmbmkfaaDoorEdU
import Derived.Test.YtefpoollmbmkfaaDoorEdV
namespace Go.Proofs.YtefpoollmbmkfaaDoor
set_option maxHeartbeats 1000000
set_option maxRecDepth 100000
set_option linter.unusedSimpArgs false
set_option linter.unusedVariables false
open Go.RowKit
attribute [local irreducible] wpList
open Sc (LL clampF)
variable {kn : Kn}
section
variable {w : World} {o : Oper} {a : Act} {x y : Operand} {t : TypeId}
theorem run_stail {l : List UInt8} {n : Nat} (hn : n ≤ l.length) (ho : o.op = .slice t x (some y) none none) (ht : Tryd.prog.underlying t = some .string) (hx : a.eval x = str l) (hy : a.eval y = .int .i64 (n : Int)) : (execOp a.eval o).run Tryd.prog w = .ok (.value (str (l.drop n))) w := by
  have h1 := ba_size l
  have h2 := ba_extract l n l.length
  rw [List.take_length] at h2
  unfold execOp
  simp only [ho, hx, hy, str, Option.map]
  simp [Instr.sliceAt, Instr.slice, Instr.sliceBounds, Instr.sliceBound, asIntOf, run_underlying ht, Sem.run_bind, h1, h2, hn]
theorem run_slo {V : Nat} (ho : o.op = .slice t x none (some y) none) (ht : Tryd.prog.underlying t = some .string) (hx : a.eval x = str (lb 64 V)) (hy : a.eval y = .int .i64 32) : (execOp a.eval o).run Tryd.prog w = .ok (.value (str (lb 32 (lo V)))) w := by
  have h := run_shead (w := w) (n := 32) (by rw [lb_length]; decide) ho ht hx hy
  rw [lb_64, List.take_left' (lb_length _ _)] at h
  exact h
theorem run_shi {V : Nat} (ho : o.op = .slice t x (some y) none none) (ht : Tryd.prog.underlying t = some .string) (hx : a.eval x = str (lb 64 V)) (hy : a.eval y = .int .i64 32) : (execOp a.eval o).run Tryd.prog w = .ok (.value (str (lb 32 (hi V)))) w := by
  have h := run_stail (w := w) (n := 32) (by rw [lb_length]; decide) ho ht hx hy
  rw [lb_64, List.drop_left' (lb_length _ _)] at h
  exact h
end
theorem rsumN_c {H : Nat} {l : List UInt8} (hH : H = hs l) (hlen : l.length ≤ 70368744177664) (w : World) (hG : GR w) : Calls Tryd.prog 43 #[str l] w fun e w' => Ret (str (lb 64 H)) w w' e := by
  rw [hH, ← smb_hs]; exact rsum_c l hlen w hG
theorem rofN_c {X n T : Nat} (hX : X = T % LL) (hT : T < 2 ^ (8 * n)) (hn : n ≤ 700) (w : World) : Calls Tryd.prog 51 #[str (lb n T)] w fun e w' => Ret (A16 X) w w' e := by
  rw [hX, ← strN_lb]; exact Sc.rof_c n T hT hn w
theorem rclampN_c {X V : Nat} (hX : X = clN V) (w : World) : Calls Tryd.prog 44 #[str (lb 32 V)] w fun e w' => Ret (str (lb 32 X)) w w' e := by
  rw [hX, ← strN_lb, ← strN_lb, ← strN_congr 32 (clampF (byt V)) (byt (clN V)) fun j hj => (byt_bval _ (clamp_ok V) 32 j hj).symm]; exact Sc.rclamp_c (byt V) (byt_ok V) w
theorem rbytesN_c (X : Nat) (w : World) : Calls Tryd.prog 52 #[A16 X] w fun e w' => Ret (str (lb 32 X)) w w' e := by
  rw [← strN_lb]; exact Sc.rbytes_c X w
theorem rmulN_c {Z X Y : Nat} (hZ : Z = X * Y % LL) (hX : X < LL) (hY : Y < LL) (w : World) : Calls Tryd.prog 54 #[A16 X, A16 Y] w fun e w' => Ret (A16 Z) w w' e := hZ ▸ Sc.rmul_c X Y hX (Nat.lt_trans hY LL_256) w
theorem raddN_c {Z X Y : Nat} (hZ : Z = (X + Y) % LL) (hX : X < LL) (hY : Y < LL) (w : World) : Calls Tryd.prog 53 #[A16 X, A16 Y] w fun e w' => Ret (A16 Z) w w' e := hZ ▸ Sc.radd_c X Y hX hY w
theorem rencN_c {X X1 Y1 Z1 : Nat} {p1 : Pr} (h1 : RD X1 Y1 Z1 p1) (hX : X = enc p1) (w : World) : Calls Tryd.prog 45 #[.agg (p3 X1 Y1 Z1)] w fun e w' => Ret (str (lb 32 X)) w w' e := hX ▸ rEnc_c h1 w

theorem rspread_c_ (S : Nat) :
  ∀ w, GR w → Calls Tryd.prog 16 #[str (lb 32 S)] w fun e w' => Ret (.agg #[str (lb 32 (kN S)), str (lb 32 (kD S)), str (lb 32 (kP S))]) w w' e := by
 obtain ⟨U1, hU1⟩ := exn (hs (lb 32 S))
 have HU1 := Lib.hid hU1
 clear hU1
 obtain ⟨U2, hU2⟩ := exn (clN (lo U1))
 have bU2 : U2 < 2 ^ 256 := by rw [hU2]; exact clN_lt _
 have HU2 := Lib.hid hU2
 clear hU2
 obtain ⟨x1, y2, z3, r4, c5⟩ := rTimes_c rd_base (lb 32 U2) (by rw [lb_length]; decide)
 rw [le_lb 32 U2 bU2] at r4
 obtain ⟨U3, hU3⟩ := exn (enc (pm BP U2))
 have bU3 : U3 < 2 ^ 256 := by rw [hU3]; exact enc_lt _
 have HU3 := Lib.hid hU3
 clear hU3
 intro w hG
 have off0 : Off [] w w := Off.refl _ _
 go_enter Tryd.func16, Tryd.ntmps16
 go_upto_region 0 with fail
 refine wp_region_lit ?_
 refine Ln ?_ (z := #[str [], str [], str []]) (t := 28)
 intro p2_1 W1 n_t2 hO h_
 have fb_t2 := fbn off0 n_t2
 replace off0 := off0.step hO i0
 have k_t2 := h_
 clear hO h_ n_t2
 refine wpL_nil ?_
 go_upto_region 1 with fail
 refine wp_region_lit ?_
 refine Lv ?_
 refine Lr ?_ (rsumN_c HU1.out (by first | omega | (simp only [List.length_append, List.length_cons, List.length_nil, lb_length]; omega)) W1 (GR_ext hG off0.ext))
 intro W2 hO
 replace k_t2 := blk_off k_t2 hO nm0
 replace off0 := off0.step hO i0
 clear hO
 refine Lv ?_
 refine wpL_nil ?_
 go_upto_region 2 with fail
 refine wp_region_lit ?_
 refine Lv ?_
 refine Lw ?_ (v := str (lb 32 (lo U1))) (hv := by exact run_slo rfl Tryd.underlying9 rfl rfl)
 refine Lr ?_ (rclampN_c HU2.out W2)
 intro W3 hO
 replace k_t2 := blk_off k_t2 hO nm0
 replace off0 := off0.step hO i0
 clear hO
 refine Lv ?_
 refine wpL_nil ?_
 go_upto_region 3 with fail
 refine Rx 8 ?_
 refine Xv ?_
 refine Xv ?_
 refine Xw ?_ (v := str (lb 32 (hi U1))) (hv := fun _ _ => by exact run_shi rfl Tryd.underlying9 rfl rfl)
 refine Xf ?_ (fun W hW => rBase_c W)
 refine Xv ?_
 refine Xf ?_ (fun W hW => c5 W)
 refine Xf ?_ (fun W hW => rencN_c r4 HU3.out W)
 refine Xw ?_ (v := .agg #[str (lb 32 U2), str (lb 32 (hi U1)), str (lb 32 U3)]) (hv := fun _ _ => by kernel_rfl)
 refine wpX_nil fun W4 hE => ?_
 have hO := off_ext hE
 replace k_t2 := blk_off k_t2 hO nm0
 replace off0 := off0.step hO i0
 clear hO hE
 refine Lp ?_ k_t2 (cells := #[str (lb 32 U2), str (lb 32 (hi U1)), str (lb 32 U3)])
 intro W5 hO h_
 replace k_t2 : Blk W5 p2_1 #[str (lb 32 U2), str (lb 32 (hi U1)), str (lb 32 U3)] 28 := h_
 clear h_
 replace off0 := off0.step hO (i1 fb_t2)
 clear hO
 refine LN ?_
 go_wp2
 rw [show #[str (lb 32 U2), str (lb 32 (hi U1)), str (lb 32 U3)] = #[str (lb 32 (kN S)), str (lb 32 (kD S)), str (lb 32 (kP S))] by rw [HU3.out, HU2.out, HU1.out]; rfl] at k_t2
 exact bodyPost_ret (res_row rfl rfl k_t2 (by kernel_rfl) (by kernel_rfl)) rfl ⟨rfl, off0.ext⟩
theorem rspreadN_c {N D P S : Nat} (hN : N = kN S) (hD : D = kD S) (hP : P = kP S) (w : World) (hG : GR w) :
    Calls Tryd.prog 16 #[str (lb 32 S)] w fun e w' => Ret (.agg #[str (lb 32 N), str (lb 32 D), str (lb 32 P)]) w w' e := by
  rw [hN, hD, hP]; exact rspread_c_ S w hG
theorem rsign_c (S : Nat) (L : List UInt8) (hL : L.length ≤ 1099511627776) :
  ∀ w, GR w → Calls Tryd.prog 19 #[str (lb 32 S), str L] w fun e w' => Ret (str (lb 64 (sig S L))) w w' e := by
 obtain ⟨U1, hU1⟩ := exn (kN S)
 have bU1 : U1 < 2 ^ 256 := by rw [hU1]; exact kN_lt _
 have HU1 := Lib.hid hU1
 clear hU1
 obtain ⟨U2, hU2⟩ := exn (kD S)
 have bU2 : U2 < 2 ^ 256 := by rw [hU2]; exact kD_lt _
 have HU2 := Lib.hid hU2
 clear hU2
 obtain ⟨U3, hU3⟩ := exn (kP S)
 have bU3 : U3 < 2 ^ 256 := by rw [hU3]; exact kP_lt _
 have HU3 := Lib.hid hU3
 clear hU3
 obtain ⟨U4, hU4⟩ := exn (hs ((lb 32 U2) ++ L))
 have HU4 := Lib.hid hU4
 clear hU4
 obtain ⟨U5, hU5⟩ := exn (U4 % LL)
 have lU5 : U5 < LL := by rw [hU5]; exact mLL _
 have bU5 : U5 < 2 ^ 256 := Nat.lt_trans lU5 LL_256
 have HU5 := Lib.hid hU5
 clear hU5
 obtain ⟨x1, y2, z3, r4, c5⟩ := rTimes_c rd_base (lb 32 U5) (by rw [lb_length]; decide)
 rw [le_lb 32 U5 bU5] at r4
 obtain ⟨U6, hU6⟩ := exn (enc (pm BP U5))
 have bU6 : U6 < 2 ^ 256 := by rw [hU6]; exact enc_lt _
 have HU6 := Lib.hid hU6
 clear hU6
 obtain ⟨U7, hU7⟩ := exn (hs (((lb 32 U6) ++ (lb 32 U3)) ++ L))
 have HU7 := Lib.hid hU7
 clear hU7
 obtain ⟨U8, hU8⟩ := exn (U7 % LL)
 have lU8 : U8 < LL := by rw [hU8]; exact mLL _
 have bU8 : U8 < 2 ^ 256 := Nat.lt_trans lU8 LL_256
 have HU8 := Lib.hid hU8
 clear hU8
 obtain ⟨U9, hU9⟩ := exn (U1 % LL)
 have lU9 : U9 < LL := by rw [hU9]; exact mLL _
 have bU9 : U9 < 2 ^ 256 := Nat.lt_trans lU9 LL_256
 have HU9 := Lib.hid hU9
 clear hU9
 obtain ⟨U10, hU10⟩ := exn (U8 * U9 % LL)
 have lU10 : U10 < LL := by rw [hU10]; exact mLL _
 have bU10 : U10 < 2 ^ 256 := Nat.lt_trans lU10 LL_256
 have HU10 := Lib.hid hU10
 clear hU10
 obtain ⟨U11, hU11⟩ := exn ((U5 + U10) % LL)
 have lU11 : U11 < LL := by rw [hU11]; exact mLL _
 have bU11 : U11 < 2 ^ 256 := Nat.lt_trans lU11 LL_256
 have HU11 := Lib.hid hU11
 clear hU11
 intro w hG
 have off0 : Off [] w w := Off.refl _ _
 go_enter Tryd.func19, Tryd.ntmps19
 go_upto_region 1 with fail
 refine wp_region_lit ?_
 refine Lv ?_
 refine Lr ?_ (rspreadN_c HU1.out HU2.out HU3.out w (GR_ext hG off0.ext))
 intro W1 hO
 replace off0 := off0.step hO i0
 clear hO
 refine Ln ?_ (z := #[str [], str [], str []]) (t := 28)
 intro p5_2 W2 n_t5 hO h_
 have fb_t5 := fbn off0 n_t5
 replace off0 := off0.step hO i0
 have k_t5 := h_
 clear hO h_ n_t5
 refine Lp ?_ k_t5 (cells := #[str (lb 32 U1), str (lb 32 U2), str (lb 32 U3)])
 intro W3 hO h_
 replace k_t5 : Blk W3 p5_2 #[str (lb 32 U1), str (lb 32 U2), str (lb 32 U3)] 28 := h_
 clear h_
 replace off0 := off0.step hO (i1 fb_t5)
 clear hO
 refine wpL_nil ?_
 go_upto_region 2 with fail
 refine wp_region_lit ?_
 refine Lv ?_
 refine Lg ?_ k_t5 (v := str (lb 32 U2))
 refine Lv ?_
 refine wpL_cat (l := (lb 32 U2)) (m := L) (by first | omega | (simp only [List.length_append, List.length_cons, List.length_nil, lb_length]; omega)) (by rfl) rfl rfl rfl ?_
 (try simp only [Act.put, mA, mB, mC])
 refine Lr ?_ (rsumN_c HU4.out (by first | omega | (simp only [List.length_append, List.length_cons, List.length_nil, lb_length]; omega)) W3 (GR_ext hG off0.ext))
 intro W4 hO
 replace k_t5 := blk_off k_t5 hO nm0
 replace off0 := off0.step hO i0
 clear hO
 refine Lr ?_ (rofN_c (n := 64) HU5.out (by rw [HU4.out]; exact hs_lt' _) (by decide) W4)
 intro W5 hO
 replace k_t5 := blk_off k_t5 hO nm0
 replace off0 := off0.step hO i0
 clear hO
 refine Ln ?_ (z := arrK .i64 16 (l16 0)) (t := 83)
 intro p6_6 W6 n_t6 hO h_
 have nq_t5_t6 := bn k_t5 n_t6
 have fb_t6 := fbn off0 n_t6
 replace k_t5 := blk_off k_t5 hO nm0
 replace off0 := off0.step hO i0
 have k_t6 := h_
 clear hO h_ n_t6
 refine LpA ?_ k_t6 (k := .i64) (n := 16) (f := l16 U5)
 intro W7 hO h_
 replace k_t6 : Blk W7 p6_6 (arrK .i64 16 (l16 U5)) 83 := h_
 clear h_
 replace k_t5 := blk_off k_t5 hO (nm1 nq_t5_t6)
 replace off0 := off0.step hO (i1 fb_t6)
 clear hO
 refine wpL_nil ?_
 go_upto_region 3 with fail
 refine Rx 6 ?_
 refine Xf ?_ (fun W hW => rBase_c W)
 refine XlA ?_ k_t6
 refine Xf ?_ (fun W hW => rbytesN_c U5 W)
 refine Xf ?_ (fun W hW => c5 W)
 refine Xf ?_ (fun W hW => rencN_c r4 HU6.out W)
 refine Xv ?_
 refine wpX_nil fun W8 hE => ?_
 have hO := off_ext hE
 replace k_t5 := blk_off k_t5 hO nm0
 replace k_t6 := blk_off k_t6 hO nm0
 replace off0 := off0.step hO i0
 clear hO hE
 refine LN ?_
 go_upto_region 4 with fail
 refine wp_region_lit ?_
 refine Lv ?_
 refine Lv ?_
 refine Lg ?_ k_t5 (v := str (lb 32 U3))
 refine wpL_cat (l := (lb 32 U6)) (m := (lb 32 U3)) (by first | omega | (simp only [List.length_append, List.length_cons, List.length_nil, lb_length]; omega)) (by rfl) rfl rfl rfl ?_
 (try simp only [Act.put, mA, mB, mC])
 refine Lv ?_
 refine wpL_cat (l := ((lb 32 U6) ++ (lb 32 U3))) (m := L) (by first | omega | (simp only [List.length_append, List.length_cons, List.length_nil, lb_length]; omega)) (by rfl) rfl rfl rfl ?_
 (try simp only [Act.put, mA, mB, mC])
 refine Lr ?_ (rsumN_c HU7.out (by first | omega | (simp only [List.length_append, List.length_cons, List.length_nil, lb_length]; omega)) W8 (GR_ext hG off0.ext))
 intro W9 hO
 replace k_t5 := blk_off k_t5 hO nm0
 replace k_t6 := blk_off k_t6 hO nm0
 replace off0 := off0.step hO i0
 clear hO
 refine Lr ?_ (rofN_c (n := 64) HU8.out (by rw [HU7.out]; exact hs_lt' _) (by decide) W9)
 intro W10 hO
 replace k_t5 := blk_off k_t5 hO nm0
 replace k_t6 := blk_off k_t6 hO nm0
 replace off0 := off0.step hO i0
 clear hO
 refine Ln ?_ (z := arrK .i64 16 (l16 0)) (t := 83)
 intro p8_11 W11 n_t8 hO h_
 have nq_t5_t8 := bn k_t5 n_t8
 have nq_t6_t8 := bn k_t6 n_t8
 have fb_t8 := fbn off0 n_t8
 replace k_t5 := blk_off k_t5 hO nm0
 replace k_t6 := blk_off k_t6 hO nm0
 replace off0 := off0.step hO i0
 have k_t8 := h_
 clear hO h_ n_t8
 refine LpA ?_ k_t8 (k := .i64) (n := 16) (f := l16 U8)
 intro W12 hO h_
 replace k_t8 : Blk W12 p8_11 (arrK .i64 16 (l16 U8)) 83 := h_
 clear h_
 replace k_t5 := blk_off k_t5 hO (nm1 nq_t5_t8)
 replace k_t6 := blk_off k_t6 hO (nm1 nq_t6_t8)
 replace off0 := off0.step hO (i1 fb_t8)
 clear hO
 refine wpL_nil ?_
 go_upto_region 5 with fail
 refine Rx 11 ?_
 refine Xv ?_
 refine XlA ?_ k_t6
 refine XlA ?_ k_t8
 refine Xv ?_
 refine Xc ?_ (v := str (lb 32 U1)) (blk_rd k_t5)
 refine Xf ?_ (fun W hW => rofN_c (n := 32) HU9.out bU1 (by decide) W)
 refine Xf ?_ (fun W hW => rmulN_c HU10.out lU8 lU9 W)
 refine Xf ?_ (fun W hW => raddN_c HU11.out lU5 lU10 W)
 refine Xf ?_ (fun W hW => rbytesN_c U11 W)
 refine wpX_cat (l := (lb 32 U6)) (m := (lb 32 U11)) (by first | omega | (simp only [List.length_append, List.length_cons, List.length_nil, lb_length]; omega)) (by rfl) rfl rfl rfl ?_
 (try simp only [Act.put, mA, mB, mC])
 refine Xv ?_
 refine wpX_nil fun W13 hE => ?_
 have hO := off_ext hE
 replace off0 := off0.step hO i0
 clear hO hE
 refine LN ?_
 go_wp2
 rw [show sig S L = U6 + 2 ^ 256 * U11 by rw [HU11.out, HU10.out, HU9.out, HU8.out, HU7.out, HU6.out, HU5.out, HU4.out, HU3.out, HU2.out, HU1.out]; rfl, ← lb_join bU6]
 exact bodyPost_ret (v := str ((lb 32 U6) ++ (lb 32 U11))) (by simp only [results, Tryd.results19]; go_simp) rfl ⟨rfl, off0.ext⟩
theorem rverify_a {V G : Nat} (hV : V < 2 ^ 256) (hG2 : G < 2 ^ (256 + 256)) (L : List UInt8) (hL : L.length ≤ 1099511627776) (h1 : LL ≤ hi G) :
  ∀ w, GR w → Calls Tryd.prog 21 #[str (lb 32 V), str L, str (lb 64 G)] w fun e w' => Ret (.int .i64 16) w w' e := by
 obtain ⟨U1, hU1⟩ := exn ((hi G) % LL)
 have lU1 : U1 < LL := by rw [hU1]; exact mLL _
 have bU1 : U1 < 2 ^ 256 := Nat.lt_trans lU1 LL_256
 have HU1 := Lib.hid hU1
 clear hU1
 intro w hG
 have off0 : Off [] w w := Off.refl _ _
 go_enter Tryd.func21, Tryd.ntmps21
 go_upto_region 1 with fail
 refine wp_region_lit ?_
 refine Lv ?_
 refine Lw ?_ (v := str (lb 32 (hi G))) (hv := by exact run_shi rfl Tryd.underlying9 rfl rfl)
 refine Lr ?_ (rofN_c (n := 32) HU1.out (hi_lt hG2) (by decide) w)
 intro W1 hO
 replace off0 := off0.step hO i0
 clear hO
 refine Ln ?_ (z := arrK .i64 16 (l16 0)) (t := 83)
 intro p7_2 W2 n_t7 hO h_
 have fb_t7 := fbn off0 n_t7
 replace off0 := off0.step hO i0
 have k_t7 := h_
 clear hO h_ n_t7
 refine LpA ?_ k_t7 (k := .i64) (n := 16) (f := l16 U1)
 intro W3 hO h_
 replace k_t7 : Blk W3 p7_2 (arrK .i64 16 (l16 U1)) 83 := h_
 clear h_
 replace off0 := off0.step hO (i1 fb_t7)
 clear hO
 refine wpL_nil ?_
 go_upto_region 2 with fail
 refine Rx 5 ?_
 refine XlA ?_ k_t7
 refine Xf ?_ (fun W hW => rbytesN_c U1 W)
 refine Xv ?_
 refine Xw ?_ (v := str (lb 32 (hi G))) (hv := fun _ _ => by exact run_shi rfl Tryd.underlying9 rfl rfl)
 refine wpX_strne (l := (lb 32 U1)) (m := (lb 32 (hi G))) (b := true) ((by rw [decide_eq_false fun e => (Nat.not_lt.2 h1) (lb_inj (Nat.lt_trans lU1 LL_256) (hi_lt hG2) e ▸ lU1)]; rfl)) (by rfl) rfl rfl rfl ?_
 (try simp only [Act.put, mA, mB, mC])
 refine wpX_nil fun W4 hE => ?_
 have hO := off_ext hE
 replace off0 := off0.step hO i0
 clear hO hE
 refine LN ?_
 go_wp2
 exact bodyPost_ret (v := .int .i64 16) (by simp only [results, Tryd.results21]; go_simp) rfl ⟨rfl, off0.ext⟩
theorem rverify_b {V G : Nat} (hV : V < 2 ^ 256) (hG2 : G < 2 ^ (256 + 256)) (L : List UInt8) (hL : L.length ≤ 1099511627776) (h1 : hi G < LL) (h2 : dOk V = false) :
  ∀ w, GR w → Calls Tryd.prog 21 #[str (lb 32 V), str L, str (lb 64 G)] w fun e w' => Ret (.int .i64 15) w w' e := by
 obtain ⟨U1, hU1⟩ := exn ((hi G) % LL)
 have lU1 : U1 < LL := by rw [hU1]; exact mLL _
 have bU1 : U1 < 2 ^ 256 := Nat.lt_trans lU1 LL_256
 have HU1 := Lib.hid hU1
 clear hU1
 have dc := rDec_0 (V := V) hV h2
 intro w hG
 have off0 : Off [] w w := Off.refl _ _
 go_enter Tryd.func21, Tryd.ntmps21
 go_upto_region 1 with fail
 refine wp_region_lit ?_
 refine Lv ?_
 refine Lw ?_ (v := str (lb 32 (hi G))) (hv := by exact run_shi rfl Tryd.underlying9 rfl rfl)
 refine Lr ?_ (rofN_c (n := 32) HU1.out (hi_lt hG2) (by decide) w)
 intro W1 hO
 replace off0 := off0.step hO i0
 clear hO
 refine Ln ?_ (z := arrK .i64 16 (l16 0)) (t := 83)
 intro p7_2 W2 n_t7 hO h_
 have fb_t7 := fbn off0 n_t7
 replace off0 := off0.step hO i0
 have k_t7 := h_
 clear hO h_ n_t7
 refine LpA ?_ k_t7 (k := .i64) (n := 16) (f := l16 U1)
 intro W3 hO h_
 replace k_t7 : Blk W3 p7_2 (arrK .i64 16 (l16 U1)) 83 := h_
 clear h_
 replace off0 := off0.step hO (i1 fb_t7)
 clear hO
 refine wpL_nil ?_
 go_upto_region 2 with fail
 refine Rx 5 ?_
 refine XlA ?_ k_t7
 refine Xf ?_ (fun W hW => rbytesN_c U1 W)
 refine Xv ?_
 refine Xw ?_ (v := str (lb 32 (hi G))) (hv := fun _ _ => by exact run_shi rfl Tryd.underlying9 rfl rfl)
 refine wpX_strne (l := (lb 32 U1)) (m := (lb 32 (hi G))) (b := false) ((by rw [HU1.out, Nat.mod_eq_of_lt h1]; simp)) (by rfl) rfl rfl rfl ?_
 (try simp only [Act.put, mA, mB, mC])
 refine wpX_nil fun W4 hE => ?_
 have hO := off_ext hE
 replace off0 := off0.step hO i0
 clear hO hE
 refine LN ?_
 go_upto_region 4 with fail
 refine wp_region_lit ?_
 refine Lv ?_
 refine Lr ?_ (dc W4)
 intro W5 hO
 replace off0 := off0.step hO i0
 clear hO
 refine Lv ?_
 refine Lv ?_
 refine Lw ?_ (v := .int .i64 15)
 refine Ln ?_ (z := p3 0 0 0) (t := 78)
 intro p8_6 W6 n_t8 hO h_
 have fb_t8 := fbn off0 n_t8
 replace off0 := off0.step hO i0
 have k_t8 := h_
 clear hO h_ n_t8
 refine Lp ?_ k_t8 (cells := p3 0 0 0) (hi := by rw [p3_size]; kernel_rfl) (hs := by first | rw [p3_size, p3_size] | rw [p3_size] | kernel_rfl) (h1 := by exact p3_one)
 intro W7 hO h_
 clear h_
 replace off0 := off0.step hO (i1 fb_t8)
 clear hO
 refine Lw ?_ (v := .int .i64 15)
 refine wpL_nil ?_
 go_wp2
 exact bodyPost_ret (v := .int .i64 15) (by simp only [results, Tryd.results21]; go_simp) rfl ⟨rfl, off0.ext⟩
theorem rverify_d {V G : Nat} (hV : V < 2 ^ 256) (hG2 : G < 2 ^ (256 + 256)) (L : List UInt8) (hL : L.length ≤ 1099511627776) (h1 : hi G < LL) (h2 : dOk V = true) :
  ∀ w, GR w → Calls Tryd.prog 21 #[str (lb 32 V), str L, str (lb 64 G)] w fun e w' => Ret (.int .i64 (vfy V L G : Int)) w w' e := by
 obtain ⟨U1, hU1⟩ := exn ((hi G) % LL)
 have lU1 : U1 < LL := by rw [hU1]; exact mLL _
 have bU1 : U1 < 2 ^ 256 := Nat.lt_trans lU1 LL_256
 have HU1 := Lib.hid hU1
 clear hU1
 obtain ⟨dx, dr, dc⟩ := rDec_1 (V := V) hV h2
 obtain ⟨y0, hy0⟩ := exn (V % 2 ^ 255)
 rw [← hy0] at dr dc
 have Hy0 := Lib.hid hy0
 clear hy0
 obtain ⟨U2, hU2⟩ := exn (hs (((lb 32 (lo G)) ++ (lb 32 V)) ++ L))
 have HU2 := Lib.hid hU2
 clear hU2
 obtain ⟨U3, hU3⟩ := exn (U2 % LL)
 have lU3 : U3 < LL := by rw [hU3]; exact mLL _
 have bU3 : U3 < 2 ^ 256 := Nat.lt_trans lU3 LL_256
 have HU3 := Lib.hid hU3
 clear hU3
 obtain ⟨x1, y2, z3, r4, c5⟩ := rTimes_c rd_base (lb 32 (hi G)) (by rw [lb_length]; decide)
 rw [le_lb 32 (hi G) (hi_lt hG2)] at r4
 obtain ⟨x6, y7, z8, r9, c10⟩ := rPNeg_c dr
 obtain ⟨x11, y12, z13, r14, c15⟩ := rTimes_c r9 (lb 32 U3) (by rw [lb_length]; decide)
 rw [le_lb 32 U3 bU3] at r14
 obtain ⟨x16, y17, z18, r19, c20⟩ := rPAdd_c r4 r14
 obtain ⟨U4, hU4⟩ := exn (enc (padd (pm BP (hi G)) (pm (pneg (dPt V)) U3)))
 have bU4 : U4 < 2 ^ 256 := by rw [hU4]; exact enc_lt _
 have HU4 := Lib.hid hU4
 clear hU4
 intro w hG
 have off0 : Off [] w w := Off.refl _ _
 go_enter Tryd.func21, Tryd.ntmps21
 go_upto_region 1 with fail
 refine wp_region_lit ?_
 refine Lv ?_
 refine Lw ?_ (v := str (lb 32 (hi G))) (hv := by exact run_shi rfl Tryd.underlying9 rfl rfl)
 refine Lr ?_ (rofN_c (n := 32) HU1.out (hi_lt hG2) (by decide) w)
 intro W1 hO
 replace off0 := off0.step hO i0
 clear hO
 refine Ln ?_ (z := arrK .i64 16 (l16 0)) (t := 83)
 intro p7_2 W2 n_t7 hO h_
 have fb_t7 := fbn off0 n_t7
 replace off0 := off0.step hO i0
 have k_t7 := h_
 clear hO h_ n_t7
 refine LpA ?_ k_t7 (k := .i64) (n := 16) (f := l16 U1)
 intro W3 hO h_
 replace k_t7 : Blk W3 p7_2 (arrK .i64 16 (l16 U1)) 83 := h_
 clear h_
 replace off0 := off0.step hO (i1 fb_t7)
 clear hO
 refine wpL_nil ?_
 go_upto_region 2 with fail
 refine Rx 5 ?_
 refine XlA ?_ k_t7
 refine Xf ?_ (fun W hW => rbytesN_c U1 W)
 refine Xv ?_
 refine Xw ?_ (v := str (lb 32 (hi G))) (hv := fun _ _ => by exact run_shi rfl Tryd.underlying9 rfl rfl)
 refine wpX_strne (l := (lb 32 U1)) (m := (lb 32 (hi G))) (b := false) ((by rw [HU1.out, Nat.mod_eq_of_lt h1]; simp)) (by rfl) rfl rfl rfl ?_
 (try simp only [Act.put, mA, mB, mC])
 refine wpX_nil fun W4 hE => ?_
 have hO := off_ext hE
 replace off0 := off0.step hO i0
 clear hO hE
 refine LN ?_
 go_upto_region 4 with fail
 refine wp_region_lit ?_
 refine Lv ?_
 refine Lr ?_ (dc W4)
 intro W5 hO
 replace off0 := off0.step hO i0
 clear hO
 refine Lv ?_
 refine Lv ?_
 refine Lw ?_ (v := .int .i64 0)
 refine Ln ?_ (z := p3 0 0 0) (t := 78)
 intro p8_6 W6 n_t8 hO h_
 have fb_t8 := fbn off0 n_t8
 replace off0 := off0.step hO i0
 have k_t8 := h_
 clear hO h_ n_t8
 refine Lp ?_ k_t8 (cells := p3 dx y0 1) (hi := by rw [p3_size]; kernel_rfl) (hs := by first | rw [p3_size, p3_size] | rw [p3_size] | kernel_rfl) (h1 := by exact p3_one)
 intro W7 hO h_
 replace k_t8 : Blk W7 p8_6 (p3 dx y0 1) 78 := h_
 clear h_
 replace off0 := off0.step hO (i1 fb_t8)
 clear hO
 refine Lw ?_ (v := .int .i64 0)
 refine wpL_nil ?_
 go_upto_region 7 with fail
 refine wp_region_lit ?_
 refine Lv ?_
 refine Lw ?_ (v := str (lb 32 (lo G))) (hv := by exact run_slo rfl Tryd.underlying9 rfl rfl)
 refine Lv ?_
 refine wpL_cat (l := (lb 32 (lo G))) (m := (lb 32 V)) (by first | omega | (simp only [List.length_append, List.length_cons, List.length_nil, lb_length]; omega)) (by rfl) rfl rfl rfl ?_
 (try simp only [Act.put, mA, mB, mC])
 refine Lv ?_
 refine wpL_cat (l := ((lb 32 (lo G)) ++ (lb 32 V))) (m := L) (by first | omega | (simp only [List.length_append, List.length_cons, List.length_nil, lb_length]; omega)) (by rfl) rfl rfl rfl ?_
 (try simp only [Act.put, mA, mB, mC])
 refine Lr ?_ (rsumN_c HU2.out (by first | omega | (simp only [List.length_append, List.length_cons, List.length_nil, lb_length]; omega)) W7 (GR_ext hG off0.ext))
 intro W8 hO
 replace k_t8 := blk_off k_t8 hO nm0
 replace off0 := off0.step hO i0
 clear hO
 refine Lr ?_ (rofN_c (n := 64) HU3.out (by rw [HU2.out]; exact hs_lt' _) (by decide) W8)
 intro W9 hO
 replace k_t8 := blk_off k_t8 hO nm0
 replace off0 := off0.step hO i0
 clear hO
 refine Ln ?_ (z := arrK .i64 16 (l16 0)) (t := 83)
 intro p10_10 W10 n_t10 hO h_
 have nq_t8_t10 := bn k_t8 n_t10
 have fb_t10 := fbn off0 n_t10
 replace k_t8 := blk_off k_t8 hO nm0
 replace off0 := off0.step hO i0
 have k_t10 := h_
 clear hO h_ n_t10
 refine LpA ?_ k_t10 (k := .i64) (n := 16) (f := l16 U3)
 intro W11 hO h_
 replace k_t10 : Blk W11 p10_10 (arrK .i64 16 (l16 U3)) 83 := h_
 clear h_
 replace k_t8 := blk_off k_t8 hO (nm1 nq_t8_t10)
 replace off0 := off0.step hO (i1 fb_t10)
 clear hO
 refine wpL_nil ?_
 go_upto_region 8 with fail
 refine Rx1 10 11 (z := p3 0 0 0) (t := 78) ?_
 refine Xf ?_ (fun W hW => rBase_c W)
 refine Xv ?_
 refine Xw ?_ (v := str (lb 32 (hi G))) (hv := fun _ _ => by exact run_shi rfl Tryd.underlying9 rfl rfl)
 refine Xf ?_ (fun W hW => c5 W)
 refine Xl ?_ k_t8 (hi := by rw [p3_size]; kernel_rfl)
 refine Xf ?_ (fun W hW => c10 W)
 refine XlA ?_ k_t10
 refine Xf ?_ (fun W hW => rbytesN_c U3 W)
 refine Xf ?_ (fun W hW => c15 W)
 refine Xf ?_ (fun W hW => c20 W)
 refine XN ?_
 intro p11_12 W12 n_t11 hE h_t11
 have hO := off_ext hE
 have fb_t11 := fbn off0 n_t11
 replace off0 := off0.step hO i0
 clear hO hE n_t11
 have k_t11 : Blk W12 p11_12 (p3 0 0 0) 78 := h_t11
 clear h_t11
 refine Lp ?_ k_t11 (cells := p3 x16 y17 z18) (hi := by rw [p3_size]; kernel_rfl) (hs := by first | rw [p3_size, p3_size] | rw [p3_size] | kernel_rfl) (h1 := by exact p3_one)
 intro W13 hO h_
 replace k_t11 : Blk W13 p11_12 (p3 x16 y17 z18) 78 := h_
 clear h_
 replace off0 := off0.step hO (i1 fb_t11)
 clear hO
 refine LN ?_
 by_cases h3 : U4 = lo G
 ·
  have _f := h3
  go_upto_region 9 with fail
  refine Rx 5 ?_
  refine Xl ?_ k_t11 (hi := by rw [p3_size]; kernel_rfl)
  refine Xf ?_ (fun W hW => rencN_c r19 HU4.out W)
  refine Xv ?_
  refine Xw ?_ (v := str (lb 32 (lo G))) (hv := fun _ _ => by exact run_slo rfl Tryd.underlying9 rfl rfl)
  refine wpX_strne (l := (lb 32 U4)) (m := (lb 32 (lo G))) (b := false) ((by rw [decide_eq_true (h3 ▸ rfl)]; rfl)) (by rfl) rfl rfl rfl ?_
  (try simp only [Act.put, mA, mB, mC])
  refine wpX_nil fun W14 hE => ?_
  have hO := off_ext hE
  replace k_t11 := blk_off k_t11 hO nm0
  replace off0 := off0.step hO i0
  clear hO hE
  refine LN ?_
  go_wp2
  rw [HU4.out, HU3.out, HU2.out] at h3
  skip
  have h3' : enc (vP V L G) = lo G := h3
  rw [show vfy V L G = 0 by unfold vfy; rw [if_neg (Nat.not_le.2 h1), if_neg (by rw [h2]; decide), if_pos h3']]
  exact bodyPost_ret (v := .int .i64 0) (by simp only [results, Tryd.results21]; go_simp) rfl ⟨rfl, off0.ext⟩
 ·
  have _f := h3
  go_upto_region 9 with fail
  refine Rx 5 ?_
  refine Xl ?_ k_t11 (hi := by rw [p3_size]; kernel_rfl)
  refine Xf ?_ (fun W hW => rencN_c r19 HU4.out W)
  refine Xv ?_
  refine Xw ?_ (v := str (lb 32 (lo G))) (hv := fun _ _ => by exact run_slo rfl Tryd.underlying9 rfl rfl)
  refine wpX_strne (l := (lb 32 U4)) (m := (lb 32 (lo G))) (b := true) ((by rw [decide_eq_false fun e => h3 (lb_inj bU4 (lo_lt _) e)]; rfl)) (by rfl) rfl rfl rfl ?_
  (try simp only [Act.put, mA, mB, mC])
  refine wpX_nil fun W14 hE => ?_
  have hO := off_ext hE
  replace off0 := off0.step hO i0
  clear hO hE
  refine LN ?_
  go_wp2
  rw [HU4.out, HU3.out, HU2.out] at h3
  skip
  have h3' : enc (vP V L G) ≠ lo G := h3
  rw [show vfy V L G = 16 by unfold vfy; rw [if_neg (Nat.not_le.2 h1), if_neg (by rw [h2]; decide), if_neg h3']]
  exact bodyPost_ret (v := .int .i64 16) (by simp only [results, Tryd.results21]; go_simp) rfl ⟨rfl, off0.ext⟩
theorem rverify_c {V G : Nat} (hV : V < 2 ^ 256) (hG2 : G < 2 ^ (256 + 256)) (L : List UInt8) (hL : L.length ≤ 1099511627776) (w : World) (hG : GR w) :
    Calls Tryd.prog 21 #[str (lb 32 V), str L, str (lb 64 G)] w fun e w' => Ret (.int .i64 (vfy V L G : Int)) w w' e := by
  by_cases h1 : LL ≤ hi G
  · rw [show vfy V L G = 16 by unfold vfy; rw [if_pos h1]]; exact rverify_a hV hG2 L hL h1 w hG
  · cases h2 : dOk V
    · rw [show vfy V L G = 15 by unfold vfy; rw [if_neg h1, if_pos h2]]; exact rverify_b hV hG2 L hL (Nat.not_le.1 h1) h2 w hG
    · exact rverify_d hV hG2 L hL (Nat.not_le.1 h1) h2 w hG
end Go.Proofs.YtefpoollmbmkfaaDoor
