/- sign: number, Spread, Sign. Conditions: the cells of the variables hold their numbers. -/
import Derived.Test.YtejkmhgkkibafaaGreatDoorJ8
import Derived.Test.YtejkmhgkkibafaaGreatDoorOz
import Derived.Test.YtejkmhgkkibafaaGreatDoorJ11
import Derived.Test.YtejkmhgkkibafaaGreatDoorJ21
import Derived.Test.YtejkmhgkkibafaaGreatDoorS8ShD
import Derived.Test.YtejkmhgkkibafaaGreatDoorJ23
import Derived.Test.YtejkmhgkkibafaaGreatDoorJ20
import Derived.Test.YtejkmhgkkibafaaGreatDoorGd
set_option linter.unusedSimpArgs false
set_option linter.unusedVariables false
namespace Go.Proofs.YtejkmhgkkibafaaGreatDoor.S8
set_option maxHeartbeats 1000000
set_option maxRecDepth 100000
open Go.RowKit
attribute [local irreducible] wpList
variable {kn : Kn}
open Sc (LL clampF)
/-- which variables are laid: those of the curve, of sums, of scalars, of the document's sums -/
def GA (kn : Kn) (w : World) : Prop := GE kn w ∧ GS w ∧ Sc.GL w ∧ (kn.r → GR w)
theorem GL_ext {w W : World} (h : Sc.GL w) (k : Ext w W) : Sc.GL W := ⟨cell_ext h.1 k, cell_ext h.2.1 k, cell_ext h.2.2.1 k, cell_ext h.2.2.2.1 k, Nat.lt_of_lt_of_le h.2.2.2.2 k.size⟩
theorem GA_ext {w W : World} (h : GA kn w) (k : Ext w W) : GA kn W := ⟨GE_ext h.1 k, GS_ext h.2.1 k, GL_ext h.2.2.1 k, fun x => GR_ext (h.2.2.2 x) k⟩
/-- a secret's cells -/
def s3 (N D P : Nat) : Array Value := arrK .u8 32 (byt N) ++ arrK .u8 32 (byt D) ++ arrK .u8 32 (byt P)
section
variable {N D P : Nat}
theorem s3c0 : ∀ i v, (arrK .u8 32 (byt N))[i]? = some v → (s3 N D P)[0 + i]? = some v := fun i v h => by rw [Nat.zero_add]; exact app_l (app_l h)
theorem s3c1 : ∀ i v, (arrK .u8 32 (byt D))[i]? = some v → (s3 N D P)[32 + i]? = some v := fun i v h => app_l (app_r (arrK_size _ _ _) h)
theorem s3c2 : ∀ i v, (arrK .u8 32 (byt P))[i]? = some v → (s3 N D P)[64 + i]? = some v := fun i v h => app_r (by rw [Array.size_append, arrK_size, arrK_size]) h
theorem s3_size : (s3 N D P).size = 96 := by unfold s3; rw [Array.size_append, Array.size_append, arrK_size, arrK_size, arrK_size]
theorem s3_one : (s3 N D P).all (·.oneCell') = true := by unfold s3; rw [Array.all_append, Array.all_append, arrK_one, arrK_one, arrK_one]; rfl
end
theorem spl_at (a : List Value) : ∀ (vs b : List Value), b.length = vs.length → spl (a ++ b).toArray a.length vs = (a ++ vs).toArray
  | [], b, h => by rw [List.eq_nil_of_length_eq_zero h]; rfl
  | v :: vs, [], h => by simp at h
  | v :: vs, x :: b, h => by
    show spl ((a ++ x :: b).toArray.setIfInBounds a.length v) (a.length + 1) vs = _
    rw [List.setIfInBounds_toArray, List.set_append_right _ _ (Nat.le_refl _), Nat.sub_self, List.set_cons_zero]
    have := spl_at (a ++ [v]) vs b (by simpa using h)
    simpa using this
theorem spl_s3 (N D P Q : Nat) : spl (s3 N D Q) 64 (arrK .u8 32 (byt P)).toList = s3 N D P := by
  have h := spl_at (lstK .u8 32 (byt N) ++ lstK .u8 32 (byt D)) (lstK .u8 32 (byt P)) (lstK .u8 32 (byt Q)) (by rw [lstK_length, lstK_length])
  rw [List.length_append, lstK_length, lstK_length] at h
  have e : ∀ X, s3 N D X = (lstK .u8 32 (byt N) ++ lstK .u8 32 (byt D) ++ lstK .u8 32 (byt X)).toArray := fun X => by
    unfold s3; apply Array.ext'; simp only [Array.toList_append, arrK_list]
  rw [e, e, arrK_list]; exact h
theorem put_s3 {P : Program} {ops : Array Oper} {Q : Exit → Act → World → Prop} {w : World} {l : List Oper} {o : Oper} {a a' : Act} {ty t : TypeId} {x y : Operand} {b N D R V : Nat} (h : ∀ W, Off [b] w W → Blk W b (s3 N D V) t → wpList P ops Q l a' W) (hB : Blk w b (s3 N D R) t)
    (hw : Region.wanted o (yielded ops a.tmps) = true := by exact rfl) (ho : o.op = .store ty x y := by exact rfl) (hx : a.eval x = .pointer (some ⟨b, 64, none⟩) := by exact rfl) (hy : a.eval y = .agg (arrK .u8 32 (byt V)) := by exact rfl)
    (hi : (P.info? ty).map (·.size) = some 32 := by kernel_rfl) (hp : a.put o.dst undef = a' := by (try simp only [Act.put, mA, mB, mC]); exact rfl) : wpList P ops Q (o :: l) a w := by
  subst hp
  refine wpL_put (v := .agg (arrK .u8 32 (byt V))) hw ho hx hy hB (by show 64 + (arrK .u8 32 (byt V)).size ≤ _; rw [arrK_size, s3_size]; decide) (by show _ = some (arrK .u8 32 (byt V)).size; rw [arrK_size]; exact hi) (arrK_one _ _ _) fun W h1 h2 => h W h1 ?_
  have e : spl (s3 N D R) 64 (Value.agg (arrK .u8 32 (byt V))).cells.toList = s3 N D V := spl_s3 N D V R
  rw [e] at h2
  exact h2
theorem sumN_c {H : Nat} {F : List UInt8} (hH : H = hs F) (ps : List (List UInt8)) (A : Option Addr) (c : Nat) (hF : ps.flatten = F) (hlen : F.length ≤ 70368744177664) (hpn : ps.length ≤ 9223372036854775000) (w : World) (hps : ∀ i l, ps[i]? = some l → ∃ ad u, A = some ad ∧ w.cell? (ad.add i) = some u ∧ Sl w u l) (hG : GS w) :
    Calls Tryz.prog 125 #[.slice A ps.length c] w fun e w' => Ret (.agg (arrK .u8 64 (byt H))) w w' e := by
  rw [hH, ← sm_hs]; exact sum_c ps A c F hF hlen hpn w hps hG
theorem ofN_c {X : Nat} {w : World} {b off n c V : Nat} {cs : Array Value} {t : TypeId} (hX : X = V % LL) (hB : Blk w b cs t) (hc : ∀ i v, (arrK .u8 n (byt V))[i]? = some v → cs[off + i]? = some v) (hn : n ≤ 700) (hV : V < 2 ^ (8 * n)) (hG : Sc.GL w) :
    Calls Tryz.prog 95 #[.slice (some ⟨b, off, none⟩) n c] w fun e w' => Ret (L4 X) w w' e := by
  have h := Sc.of_c (byt V) (byt_ok V) b off n c w hG hn (fun j hj => by rw [blk_cell hB]; exact hc j _ (arrK_get _ _ _ _ hj)) (blk_lt hB)
  rw [bval_byt, Nat.mod_eq_of_lt hV, ← hX] at h
  exact h
theorem bytesN_c {V : Nat} (hV : V < LL) (w : World) (hG : Sc.GL w) : Calls Tryz.prog 91 #[L4 V] w fun e w' => Ret (.agg (arrK .u8 32 (byt V))) w w' e := by
  have h := Sc.bytes_c V (Nat.lt_trans hV LL_256) w hG
  rw [Nat.mod_eq_of_lt hV] at h
  exact h
theorem mulN_c {X A B : Nat} (hX : X = A * B % LL) (hA : A < P256) (hB : B < P256) (w : World) (hG : Sc.GL w) : Calls Tryz.prog 94 #[L4 A, L4 B] w fun e w' => Ret (L4 X) w w' e := hX ▸ Sc.mul_c A B hA hB w hG
theorem addN_c {X A B : Nat} (hX : X = (A + B) % LL) (hA : A < P256) (hB : B < P256) (w : World) (hG : Sc.GL w) : Calls Tryz.prog 93 #[L4 A, L4 B] w fun e w' => Ret (L4 X) w w' e := hX ▸ Sc.add_c A B hA hB w hG
theorem clampN_c {X V : Nat} (hX : X = clN V) (w : World) : Calls Tryz.prog 126 #[.agg (arrK .u8 32 (byt V))] w fun e w' => Ret (.agg (arrK .u8 32 (byt X))) w w' e := by
  have h := Sc.clamp_c (byt V) (byt_ok V) w
  rw [clN_arr, ← hX] at h
  exact h
theorem encN_c {X X1 Y1 Z1 T1 : Nat} {p1 : Pr} (h1 : RW X1 Y1 Z1 T1 p1) (hX : X = enc p1) (w : World) (hG : GE kn w) : Calls Tryz.prog 92 #[.agg (p4 X1 Y1 Z1 T1)] w fun e w' => Ret (.agg (arrK .u8 32 (byt X))) w w' e := hX ▸ eEnc_c h1 w hG

theorem number_c {X : Nat} {F : List UInt8} (hX : X = hs F % LL) (ps : List (List UInt8)) (A : Option Addr) (c : Nat) (hF : ps.flatten = F) (hlen : F.length ≤ 70368744177664) (hpn : ps.length ≤ 9223372036854775000) (w : World) (hps : ∀ i l, ps[i]? = some l → ∃ ad u, A = some ad ∧ w.cell? (ad.add i) = some u ∧ Sl w u l) (hG : GA kn w) :
  Calls Tryz.prog 88 #[.slice A ps.length c] w fun e w' => Ret (L4 X) w w' e := by
 have HPS := Lib.hid hps
 clear hps
 rw [hX]
 clear hX
 have off0 : Off [] w w := Off.refl _ _
 go_enter Tryz.func88, Tryz.ntmps88
 go_upto_region 0 with fail
 refine wp_region_lit ?_
 refine Ln ?_ (z := c4 0) (t := 153)
 intro p2_1 W1 n_t2 hO h_
 have fb_t2 := fbn off0 n_t2
 replace off0 := off0.o hO
 have k_t2 := h_
 clear hO h_ n_t2
 refine wpL_nil ?_
 go_upto_region 1 with fail
 refine wp_region_lit ?_
 refine Lv ?_
 obtain ⟨U1, hU1⟩ := exn (hs F)
 have HU1 := Lib.hid hU1
 clear hU1
 refine Lr ?_ (sumN_c HU1.out ps A c hF hlen hpn W1 (pss_off0 off0 HPS.out) (GA_ext hG off0.ext).2.1)
 intro W2 hO
 replace k_t2 := k_t2.o hO
 replace off0 := off0.o hO
 clear hO
 refine LnA ?_ (z := arrK .u8 64 (byt 0)) (t := 45) (k := .u8) (n := 64) (f := byt U1)
 intro p3_3 W4 n_t3 hO h_
 replace k_t2 := k_t2.o hO
 replace off0 := off0.o hO
 have k_t3 := h_
 clear hO h_ n_t3
 refine wpL_nil ?_
 go_upto_region 2 with fail
 refine wp_region_lit ?_
 refine Lw ?_ (v := .slice (some ⟨p3_3, 0, none⟩) 64 64) (hv := by first | rfl | (go_simp; done) | (go_simp; with_reducible rfl))
 obtain ⟨U2, hU2⟩ := exn (U1 % LL)
 have lU2 : U2 < LL := by rw [hU2]; exact mLL _
 have bU2 : U2 < 2 ^ 256 := Nat.lt_trans lU2 LL_256
 have HU2 := Lib.hid hU2
 clear hU2
 refine Lr ?_ (ofN_c HU2.out (n := 64) (off := 0) k_t3 ap0 (by decide) (by rw [HU1.out]; exact hs_lt' _) (GA_ext hG off0.ext).2.2.1)
 intro W5 hO
 replace k_t2 := k_t2.o hO
 replace off0 := off0.o hO
 clear hO
 refine Lp ?_ k_t2 (cells := c4 U2)
 intro W6 hO h_
 replace k_t2 : Blk W6 p2_1 (c4 U2) 153 := h_
 clear h_
 replace off0 := off0.p hO fb_t2
 clear hO
 refine wpL_nil ?_
 go_wp2
 rw [HU2.out, HU1.out] at k_t2
 exact bodyPost_ret (res_row rfl rfl k_t2 (by kernel_rfl) (by kernel_rfl)) rfl ⟨rfl, off0.ext⟩
theorem spread_c_ (hd : kn.d) (hb : kn.b) (S : Nat) :
  ∀ w, GA kn w → Calls Tryz.prog 77 #[.agg (arrK .u8 32 (byt S))] w fun e w' => Ret (.agg (s3 (kN S) (kD S) (kP S))) w w' e := by
 obtain ⟨U1, hU1⟩ := exn (hs ((lb 32 S)))
 have HU1 := Lib.hid hU1
 clear hU1
 obtain ⟨U2, hU2⟩ := exn (clN (lo U1))
 have bU2 : U2 < 2 ^ 256 := by rw [hU2]; exact clN_lt _
 have HU2 := Lib.hid hU2
 clear hU2
 obtain ⟨x1, y2, z3, t4, r5, c6⟩ := eBase_c hb
 obtain ⟨x7, y8, z9, t10, r11, c12⟩ := eTimes_c hd r5.rw (N := U2) bU2
 obtain ⟨U3, hU3⟩ := exn (enc (pm BP U2))
 have bU3 : U3 < 2 ^ 256 := by rw [hU3]; exact enc_lt _
 have HU3 := Lib.hid hU3
 clear hU3
 intro w hG
 have off0 : Off [] w w := Off.refl _ _
 go_enter Tryz.func77, Tryz.ntmps77
 go_upto_region 0 with fail
 refine wp_region_lit ?_
 refine Ln ?_ (z := arrK .u8 32 (byt S)) (t := 23)
 intro p1_1 W1 n_t1 hO h_
 replace off0 := off0.o hO
 have k_t1 := h_
 clear hO h_ n_t1
 refine Ln ?_ (z := s3 0 0 0) (t := 140)
 intro p2_2 W2 n_t2 hO h_
 have fb_t2 := fbn off0 n_t2
 replace k_t1 := k_t1.o hO
 replace off0 := off0.o hO
 have k_t2 := h_
 clear hO h_ n_t2
 refine wpL_nil ?_
 go_upto_region 1 with fail
 refine wp_region_lit ?_
 refine Lw ?_ (v := .slice (some ⟨p1_1, 0, none⟩) 32 32) (hv := by first | rfl | (go_simp; done) | (go_simp; with_reducible rfl))
 refine LnS ?_ (z := #[.slice (some ⟨p1_1, 0, none⟩) 32 32]) (t := 22) (n := 1) (c := 1) (hr := by exact run_bsv [.slice (some ⟨p1_1, 0, none⟩) 32 32] rfl rfl (vsc (rfl) vs0) Tryz.underlying113 (by kernel_rfl) (by kernel_rfl) rfl (by decide) (by decide))
 intro p6_3 W3 n_s6 hO h_
 replace k_t1 := k_t1.o hO
 replace k_t2 := k_t2.o hO
 replace off0 := off0.o hO
 have k_s6 := h_
 clear hO h_ n_s6
 refine Lr ?_ (sumN_c HU1.out [lb 32 S] (some ⟨p6_3, 0, none⟩) 1 (by simp only [List.flatten_cons, List.flatten_nil, List.append_nil, List.nil_append, List.append_assoc, List.cons_append]) (by first | omega | (simp only [List.length_append, List.length_cons, List.length_nil, lb_length]; omega)) (by simp) W3 (pss_blk k_s6 (pvc (sl_part (V := S) (n := 32) (off := 0) k_t1 ap0 (by decide) (by decide)) pv0)) (GA_ext hG off0.ext).2.1)
 intro W4 hO
 replace k_t2 := k_t2.o hO
 replace off0 := off0.o hO
 clear hO
 refine LnA ?_ (z := arrK .u8 64 (byt 0)) (t := 45) (k := .u8) (n := 64) (f := byt U1)
 intro p3_5 W6 n_t3 hO h_
 replace k_t2 := k_t2.o hO
 replace off0 := off0.o hO
 have k_t3 := h_
 clear hO h_ n_t3
 refine wpL_nil ?_
 go_upto_region 2 with fail
 refine Rx1 8 4 (z := s3 0 0 0) (t := 140) ?_
 refine Xw ?_ (v := .slice (some ⟨p3_5, 0, none⟩) 32 64)
 refine Xw ?_ (v := .pointer (some ⟨p3_5, 0, none⟩))
 refine Xls ?_ (sub := arrK .u8 32 (byt (lo U1))) (j := 0) k_t3 h64l
 refine Xf ?_ (fun W hW => clampN_c HU2.out W)
 refine Xw ?_ (v := .slice (some ⟨p3_5, 32, none⟩) 32 32)
 refine Xw ?_ (v := .pointer (some ⟨p3_5, 32, none⟩))
 refine Xls ?_ (sub := arrK .u8 32 (byt (hi U1))) (j := 32) k_t3 h64h
 refine Xw ?_ (v := .agg (s3 U2 (hi U1) 0)) (hv := fun _ _ => by kernel_rfl)
 refine XN ?_
 intro p4_7 W7 n_t4 hE h_t4
 have hO := off_ext hE
 have nq_t2_t4 := bn k_t2 n_t4
 have fb_t4 := fbn off0 n_t4
 replace k_t2 := k_t2.o hO
 replace off0 := off0.o hO
 clear hO hE n_t4
 have k_t4 : Blk W7 p4_7 (s3 0 0 0) 140 := h_t4
 clear h_t4
 refine Lp ?_ k_t4 (cells := s3 U2 (hi U1) 0) (hi := by rw [s3_size]; kernel_rfl) (hs := by first | rw [s3_size, s3_size] | rw [s3_size] | kernel_rfl) (h1 := by exact s3_one)
 intro W8 hO h_
 replace k_t4 : Blk W8 p4_7 (s3 U2 (hi U1) 0) 140 := h_
 clear h_
 replace k_t2 := k_t2.p hO nq_t2_t4
 replace off0 := off0.p hO fb_t4
 clear hO
 refine LN ?_
 go_upto_region 3 with fail
 refine Rx 6 ?_
 refine Xf ?_ (fun W hW => c6 W (GA_ext (GA_ext hG off0.ext) hW).1)
 refine Xv ?_
 refine Xls ?_ (sub := arrK .u8 32 (byt U2)) (j := 0) k_t4 s3c0
 refine Xf ?_ (fun W hW => c12 W (GA_ext (GA_ext hG off0.ext) hW).1)
 refine Xf ?_ (fun W hW => encN_c r11.rw HU3.out W (GA_ext (GA_ext hG off0.ext) hW).1)
 refine Xv ?_
 refine wpX_nil fun W9 hE => ?_
 have hO := off_ext hE
 replace k_t2 := k_t2.o hO
 replace k_t4 := k_t4.o hO
 replace off0 := off0.o hO
 clear hO hE
 refine put_s3 ?_ k_t4 (V := U3)
 intro W10 hO h_
 replace k_t4 : Blk W10 p4_7 (s3 U2 (hi U1) U3) 140 := h_
 clear h_
 replace k_t2 := k_t2.p hO nq_t2_t4
 replace off0 := off0.p hO fb_t4
 clear hO
 refine LN ?_
 go_upto_region 4 with fail
 refine wp_region_lit ?_
 refine L0 ?_ k_t4 (hi := by rw [s3_size]; kernel_rfl)
 refine Lp ?_ k_t2 (cells := s3 U2 (hi U1) U3) (hi := by rw [s3_size]; kernel_rfl) (hs := by first | rw [s3_size, s3_size] | rw [s3_size] | kernel_rfl) (h1 := by exact s3_one)
 intro W11 hO h_
 replace k_t2 : Blk W11 p2_2 (s3 U2 (hi U1) U3) 140 := h_
 clear h_
 replace off0 := off0.p hO fb_t2
 clear hO
 refine wpL_nil ?_
 go_wp2
 rw [show s3 U2 (hi U1) U3 = s3 (kN S) (kD S) (kP S) by rw [HU3.out, HU2.out, HU1.out]; rfl] at k_t2
 exact bodyPost_ret (res_row rfl rfl k_t2 (by kernel_rfl) (by rw [s3_size]; kernel_rfl)) rfl ⟨rfl, off0.ext⟩
end Go.Proofs.YtejkmhgkkibafaaGreatDoor.S8
