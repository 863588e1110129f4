/- sha2.press: a block worked into eight words. Conditions: the slice has 128 bytes; the cells of the two tables hold their numbers. -/
import Derived.Test.YtejkmhgkkibafaaGreatDoorGc
import Derived.Test.YtejkmhgkkibafaaGreatDoorSqB
set_option linter.unusedSimpArgs false
set_option linter.unusedVariables false
namespace Go.Proofs.YtejkmhgkkibafaaGreatDoor
set_option maxHeartbeats 1500000
set_option maxRecDepth 100000
open Go.RowKit
attribute [local irreducible] wpList

def kk4 : List Int := [1116352408, 1899447441, 3049323471, 3921009573, 961987163, 1508970993, 2453635748, 2870763221, 3624381080, 310598401, 607225278, 1426881987, 1925078388, 2162078206, 2614888103, 3248222580, 3835390401, 4022224774, 264347078, 604807628, 770255983, 1249150122, 1555081692, 1996064986, 2554220882, 2821834349, 2952996808, 3210313671, 3336571891, 3584528711, 113926993, 338241895, 666307205, 773529912, 1294757372, 1396182291, 1695183700, 1986661051, 2177026350, 2456956037, 2730485921, 2820302411, 3259730800, 3345764771, 3516065817, 3600352804, 4094571909, 275423344, 430227734, 506948616, 659060556, 883997877, 958139571, 1322822218, 1537002063, 1747873779, 1955562222, 2024104815, 2227730452, 2361852424, 2428436474, 2756734187, 3204031479, 3329325298]
def hh4 : List Int := [1779033703, 3144134277, 1013904242, 2773480762, 1359893119, 2600822924, 528734635, 1541459225]
/-- the two tables by place -/
def kf4 (i : Nat) : Int := kk4.getD i 0
def hf4 (i : Nat) : Int := hh4.getD i 0
def GS4 (w : World) : Prop := Rd w 11 (arrK .u32 64 kf4) ∧ Rd w 4 (arrK .u32 8 hf4)
theorem GS_ext4 {w W : World} (h : GS4 w) (e : Ext w W) : GS4 W := ⟨h.1.ext e, h.2.ext e⟩
def rT4 (k w : Nat → Int) (i : Nat) (v : Nat → Int) : Int := ad4 (ad4 (ad4 (ad4 (v 7) (big4 (v 4) 6 11 25)) (xo4 (an4 (v 4) (v 5)) (an4 (nt4 (v 4)) (v 6)))) (k i)) (w i)
def rU4 (v : Nat → Int) : Int := ad4 (big4 (v 0) 2 13 22) (xo4 (xo4 (an4 (v 0) (v 1)) (an4 (v 0) (v 2))) (an4 (v 1) (v 2)))
def rnd4 (k w : Nat → Int) (i : Nat) (v : Nat → Int) : Nat → Int
  | 0 => ad4 (rT4 k w i v) (rU4 v)
  | 1 => v 0
  | 2 => v 1
  | 3 => v 2
  | 4 => ad4 (v 3) (rT4 k w i v)
  | 5 => v 4
  | 6 => v 5
  | 7 => v 6
  | _ => 0
def rnds4 (k w v : Nat → Int) : Nat → Nat → Int
  | 0 => v
  | i + 1 => rnd4 k w i (rnds4 k w v i)
/-- a block worked in -/
def prs4 (h b : Nat → Int) (j : Nat) : Int := ad4 (h j) (rnds4 kf4 (sch4 b 64) h 64 j)
def mx4 (h v : Nat → Int) (i j : Nat) : Int := if j < i then ad4 (h j) (v j) else h j
theorem mx_step4 (h v : Nat → Int) (i : Nat) : upd (mx4 h v i) i (ad4 (mx4 h v i i) (v i)) = mx4 h v (i + 1) := by
  funext j
  unfold upd mx4
  by_cases hj : j = i
  · subst hj; rw [if_pos rfl, if_neg (by omega), if_pos (by omega)]
  · rw [if_neg hj]
    by_cases hl : j < i
    · rw [if_pos hl, if_pos (by omega)]
    · rw [if_neg hl, if_neg (by omega)]
theorem mx_zero4 (h v : Nat → Int) : mx4 h v 0 = h := by funext j; unfold mx4; rw [if_neg (by omega)]
theorem mx_end4 (h b : Nat → Int) : arrK .u32 8 (mx4 h (rnds4 kf4 (sch4 b 64) h 64) 8) = arrK .u32 8 (prs4 h b) := arrK_congr _ _ _ _ fun j hj => by unfold mx4 prs4; rw [if_pos hj]

theorem press4_c (h : Nat → Int) (l : List UInt8) (adr : Addr) (c : Nat) (hl : 64 ≤ l.length) (hlc : l.length ≤ c) (w : World) (hs : Sl w (.slice (some adr) l.length c) l) (hG : GS4 w) :
  Calls Tryz.prog 128 #[.agg (arrK .u32 8 h), .slice (some adr) l.length c] w fun e w' => Ret (.agg (arrK .u32 8 (prs4 h (bt l)))) w w' e := by
 have HG := Lib.hid hG
 clear hG
 have ow_a := hs
 have off0 : Off [] w w := Off.refl _ _
 go_enter Tryz.func128, Tryz.ntmps128
 go_upto_region 0 with fail
 refine wp_region_lit ?_
 refine Ln ?_ (z := arrK .u32 8 h) (t := 194)
 intro p2_1 W1 n_t2 hO h_
 have ne_a_t2 := ne_new (Sl.lt ow_a) n_t2
 have fb_t2 := fbn off0 n_t2
 replace ow_a := Sl.off ow_a hO f0
 replace off0 := off0.o hO
 have k_t2 := h_
 clear hO h_ n_t2
 refine Ln ?_ (z := arrK .u32 8 (fun _ => 0)) (t := 194)
 intro p4_2 W2 n_t4 hO h_
 have nq_t2_t4 := bn k_t2 n_t4
 have fb_t4 := fbn off0 n_t4
 replace k_t2 := k_t2.o hO
 replace ow_a := Sl.off ow_a hO f0
 replace off0 := off0.o hO
 have k_t4 := h_
 clear hO h_ n_t4
 refine wpL_nil ?_
 go_upto_region 1 with fail
 refine wp_region_lit ?_
 refine Lv ?_
 refine Lr ?_ (spread4_c l adr c hl hlc W2 ow_a)
 intro W3 hO
 replace k_t2 := k_t2.o hO
 replace k_t4 := k_t4.o hO
 replace ow_a := Sl.off ow_a hO f0
 replace off0 := off0.o hO
 clear hO
 refine LnA ?_ (z := arrK .u32 64 (fun _ => 0)) (t := 231) (k := .u32) (n := 64) (f := sch4 (bt l) 64)
 intro p5_4 W5 n_t5 hO h_
 have nq_t2_t5 := bn k_t2 n_t5
 replace k_t2 := k_t2.o hO
 replace k_t4 := k_t4.o hO
 replace ow_a := Sl.off ow_a hO f0
 replace off0 := off0.o hO
 have k_t5 := h_
 clear hO h_ n_t5
 refine wpL_nil ?_
 go_upto_region 2 with fail
 refine wp_region_lit ?_
 refine L0A ?_ k_t2
 refine LnA ?_ (z := arrK .u32 8 (fun _ => 0)) (t := 194) (k := .u32) (n := 8) (f := h)
 intro p6_6 W7 n_t6 hO h_
 have nq_t2_t6 := bn k_t2 n_t6
 have nq_t4_t6 := bn k_t4 n_t6
 have nq_t5_t6 := bn k_t5 n_t6
 have ne_a_t6 := ne_new (Sl.lt ow_a) n_t6
 have fb_t6 := fbn off0 n_t6
 replace k_t2 := k_t2.o hO
 replace k_t4 := k_t4.o hO
 replace k_t5 := k_t5.o hO
 replace ow_a := Sl.off ow_a hO f0
 replace off0 := off0.o hO
 have k_t6 := h_
 clear hO h_ n_t6
 refine wpL_nil ?_
 go_wp2_with fail
 go_loopw [14] (fun ii wr => ∃ (i : Nat), (i ≤ 64) ∧ (ii = .int .i64 (i : Int)) ∧ Off [] w wr ∧ Blk wr p2_1 (arrK .u32 8 h) 194 ∧ Blk wr p4_2 (arrK .u32 8 (fun _ => 0)) 194 ∧ Blk wr p5_4 (arrK .u32 64 (sch4 (bt l) 64)) 231 ∧ Blk wr p6_6 (arrK .u32 8 (rnds4 kf4 (sch4 (bt l) 64) h i)) 194 ∧ Sl wr (.slice (some adr) l.length c) l)
  (fun ii _ => 64 - (intOf ii).toNat)
 case atStart => exact ⟨0, Nat.zero_le _, rfl, off0, k_t2, k_t4, k_t5, k_t6, ow_a⟩
 case round =>
  obtain ⟨i, hi, rfl, off0, k_t2, k_t4, k_t5, k_t6, ow_a⟩ := hrel
  obtain ⟨W8, eW_⟩ := wname off0
  subst eW_
  by_cases h64 : i < 64
  ·
   have _f := h64
   go_upto_region 4 with fail
   refine wp_region_lit ?_
   refine Lw ?_ (v := .bool true)
   refine wpL_nil ?_
   go_upto_region 6 with fail
   refine Rx 28 ?_
   refine Xw ?_ (v := .pointer (some ⟨p6_6, 0 + 7, none⟩)) (hv := fun _ _ => run_ixarr (m := 8) (by decide) (by omega) Tryz.underlying194 (by kernel_rfl) rfl rfl rfl)
   refine Xc ?_ (v := .int .u32 ((rnds4 kf4 (sch4 (bt l) 64) h i) 7)) (blk_rd k_t6) (hj := by rw [Nat.zero_add]; exact arrK_get _ _ _ _ (by omega))
   refine Xw ?_ (v := .pointer (some ⟨p6_6, 0 + 4, none⟩)) (hv := fun _ _ => run_ixarr (m := 8) (by decide) (by omega) Tryz.underlying194 (by kernel_rfl) rfl rfl rfl)
   refine Xc ?_ (v := .int .u32 ((rnds4 kf4 (sch4 (bt l) 64) h i) 4)) (blk_rd k_t6) (hj := by rw [Nat.zero_add]; exact arrK_get _ _ _ _ (by omega))
   refine Xf ?_ (fun W hW => big4_c ((rnds4 kf4 (sch4 (bt l) 64) h i) 4) 6 11 25 (by decide) (by decide) (by decide) W)
   refine Xw ?_ (v := .int .u32 (ad4 ((rnds4 kf4 (sch4 (bt l) 64) h i) 7) (big4 ((rnds4 kf4 (sch4 (bt l) 64) h i) 4) 6 11 25))) (hv := fun _ _ => run_add4 rfl rfl rfl)
   refine Xw ?_ (v := .pointer (some ⟨p6_6, 0 + 4, none⟩)) (hv := fun _ _ => run_ixarr (m := 8) (by decide) (by omega) Tryz.underlying194 (by kernel_rfl) rfl rfl rfl)
   refine Xc ?_ (v := .int .u32 ((rnds4 kf4 (sch4 (bt l) 64) h i) 4)) (blk_rd k_t6) (hj := by rw [Nat.zero_add]; exact arrK_get _ _ _ _ (by omega))
   refine Xw ?_ (v := .pointer (some ⟨p6_6, 0 + 5, none⟩)) (hv := fun _ _ => run_ixarr (m := 8) (by decide) (by omega) Tryz.underlying194 (by kernel_rfl) rfl rfl rfl)
   refine Xc ?_ (v := .int .u32 ((rnds4 kf4 (sch4 (bt l) 64) h i) 5)) (blk_rd k_t6) (hj := by rw [Nat.zero_add]; exact arrK_get _ _ _ _ (by omega))
   refine Xw ?_ (v := .int .u32 (an4 ((rnds4 kf4 (sch4 (bt l) 64) h i) 4) ((rnds4 kf4 (sch4 (bt l) 64) h i) 5))) (hv := fun _ _ => run_and4 rfl rfl rfl)
   refine Xw ?_ (v := .pointer (some ⟨p6_6, 0 + 4, none⟩)) (hv := fun _ _ => run_ixarr (m := 8) (by decide) (by omega) Tryz.underlying194 (by kernel_rfl) rfl rfl rfl)
   refine Xc ?_ (v := .int .u32 ((rnds4 kf4 (sch4 (bt l) 64) h i) 4)) (blk_rd k_t6) (hj := by rw [Nat.zero_add]; exact arrK_get _ _ _ _ (by omega))
   refine Xw ?_ (v := .int .u32 (nt4 ((rnds4 kf4 (sch4 (bt l) 64) h i) 4))) (hv := fun _ _ => run_not4 rfl rfl)
   refine Xw ?_ (v := .pointer (some ⟨p6_6, 0 + 6, none⟩)) (hv := fun _ _ => run_ixarr (m := 8) (by decide) (by omega) Tryz.underlying194 (by kernel_rfl) rfl rfl rfl)
   refine Xc ?_ (v := .int .u32 ((rnds4 kf4 (sch4 (bt l) 64) h i) 6)) (blk_rd k_t6) (hj := by rw [Nat.zero_add]; exact arrK_get _ _ _ _ (by omega))
   refine Xw ?_ (v := .int .u32 (an4 (nt4 ((rnds4 kf4 (sch4 (bt l) 64) h i) 4)) ((rnds4 kf4 (sch4 (bt l) 64) h i) 6))) (hv := fun _ _ => run_and4 rfl rfl rfl)
   refine Xw ?_ (v := .int .u32 (xo4 (an4 ((rnds4 kf4 (sch4 (bt l) 64) h i) 4) ((rnds4 kf4 (sch4 (bt l) 64) h i) 5)) (an4 (nt4 ((rnds4 kf4 (sch4 (bt l) 64) h i) 4)) ((rnds4 kf4 (sch4 (bt l) 64) h i) 6)))) (hv := fun _ _ => run_xor4 rfl rfl rfl)
   refine Xw ?_ (v := .int .u32 (ad4 (ad4 ((rnds4 kf4 (sch4 (bt l) 64) h i) 7) (big4 ((rnds4 kf4 (sch4 (bt l) 64) h i) 4) 6 11 25)) (xo4 (an4 ((rnds4 kf4 (sch4 (bt l) 64) h i) 4) ((rnds4 kf4 (sch4 (bt l) 64) h i) 5)) (an4 (nt4 ((rnds4 kf4 (sch4 (bt l) 64) h i) 4)) ((rnds4 kf4 (sch4 (bt l) 64) h i) 6))))) (hv := fun _ _ => run_add4 rfl rfl rfl)
   refine Xv ?_
   refine Xw ?_ (v := .pointer (some ⟨11, 0 + i, none⟩)) (hv := fun _ _ => run_ixarr (m := 64) (by decide) (by omega) Tryz.underlying231 (by kernel_rfl) rfl rfl rfl)
   refine Xc ?_ (v := .int .u32 (kf4 i)) ((GS_ext4 HG.out off0.ext).1) (hj := by rw [Nat.zero_add]; exact arrK_get _ _ _ _ (by omega))
   refine Xw ?_ (v := .int .u32 (ad4 (ad4 (ad4 ((rnds4 kf4 (sch4 (bt l) 64) h i) 7) (big4 ((rnds4 kf4 (sch4 (bt l) 64) h i) 4) 6 11 25)) (xo4 (an4 ((rnds4 kf4 (sch4 (bt l) 64) h i) 4) ((rnds4 kf4 (sch4 (bt l) 64) h i) 5)) (an4 (nt4 ((rnds4 kf4 (sch4 (bt l) 64) h i) 4)) ((rnds4 kf4 (sch4 (bt l) 64) h i) 6)))) (kf4 i))) (hv := fun _ _ => run_add4 rfl rfl rfl)
   refine Xv ?_
   refine Xw ?_ (v := .pointer (some ⟨p5_4, 0 + i, none⟩)) (hv := fun _ _ => run_ixarr (m := 64) (by decide) (by omega) Tryz.underlying231 (by kernel_rfl) rfl rfl rfl)
   refine Xc ?_ (v := .int .u32 ((sch4 (bt l) 64) i)) (blk_rd k_t5) (hj := by rw [Nat.zero_add]; exact arrK_get _ _ _ _ (by omega))
   refine Xw ?_ (v := .int .u32 (rT4 kf4 (sch4 (bt l) 64) i (rnds4 kf4 (sch4 (bt l) 64) h i)))
   refine Xv ?_
   refine wpX_nil fun W9 hE => ?_
   have hO := off_ext hE
   replace k_t2 := k_t2.o hO
   replace k_t4 := k_t4.o hO
   replace k_t5 := k_t5.o hO
   replace k_t6 := k_t6.o hO
   replace ow_a := Sl.off ow_a hO f0
   replace off0 := off0.o hO
   clear hO hE
   refine LN ?_
   go_upto_region 7 with fail
   refine Rx 22 ?_
   refine Xw ?_ (v := .pointer (some ⟨p6_6, 0 + 0, none⟩)) (hv := fun _ _ => run_ixarr (m := 8) (by decide) (by omega) Tryz.underlying194 (by kernel_rfl) rfl rfl rfl)
   refine Xc ?_ (v := .int .u32 ((rnds4 kf4 (sch4 (bt l) 64) h i) 0)) (blk_rd k_t6) (hj := by rw [Nat.zero_add]; exact arrK_get _ _ _ _ (by omega))
   refine Xf ?_ (fun W hW => big4_c ((rnds4 kf4 (sch4 (bt l) 64) h i) 0) 2 13 22 (by decide) (by decide) (by decide) W)
   refine Xw ?_ (v := .pointer (some ⟨p6_6, 0 + 0, none⟩)) (hv := fun _ _ => run_ixarr (m := 8) (by decide) (by omega) Tryz.underlying194 (by kernel_rfl) rfl rfl rfl)
   refine Xc ?_ (v := .int .u32 ((rnds4 kf4 (sch4 (bt l) 64) h i) 0)) (blk_rd k_t6) (hj := by rw [Nat.zero_add]; exact arrK_get _ _ _ _ (by omega))
   refine Xw ?_ (v := .pointer (some ⟨p6_6, 0 + 1, none⟩)) (hv := fun _ _ => run_ixarr (m := 8) (by decide) (by omega) Tryz.underlying194 (by kernel_rfl) rfl rfl rfl)
   refine Xc ?_ (v := .int .u32 ((rnds4 kf4 (sch4 (bt l) 64) h i) 1)) (blk_rd k_t6) (hj := by rw [Nat.zero_add]; exact arrK_get _ _ _ _ (by omega))
   refine Xw ?_ (v := .int .u32 (an4 ((rnds4 kf4 (sch4 (bt l) 64) h i) 0) ((rnds4 kf4 (sch4 (bt l) 64) h i) 1))) (hv := fun _ _ => run_and4 rfl rfl rfl)
   refine Xw ?_ (v := .pointer (some ⟨p6_6, 0 + 0, none⟩)) (hv := fun _ _ => run_ixarr (m := 8) (by decide) (by omega) Tryz.underlying194 (by kernel_rfl) rfl rfl rfl)
   refine Xc ?_ (v := .int .u32 ((rnds4 kf4 (sch4 (bt l) 64) h i) 0)) (blk_rd k_t6) (hj := by rw [Nat.zero_add]; exact arrK_get _ _ _ _ (by omega))
   refine Xw ?_ (v := .pointer (some ⟨p6_6, 0 + 2, none⟩)) (hv := fun _ _ => run_ixarr (m := 8) (by decide) (by omega) Tryz.underlying194 (by kernel_rfl) rfl rfl rfl)
   refine Xc ?_ (v := .int .u32 ((rnds4 kf4 (sch4 (bt l) 64) h i) 2)) (blk_rd k_t6) (hj := by rw [Nat.zero_add]; exact arrK_get _ _ _ _ (by omega))
   refine Xw ?_ (v := .int .u32 (an4 ((rnds4 kf4 (sch4 (bt l) 64) h i) 0) ((rnds4 kf4 (sch4 (bt l) 64) h i) 2))) (hv := fun _ _ => run_and4 rfl rfl rfl)
   refine Xw ?_ (v := .int .u32 (xo4 (an4 ((rnds4 kf4 (sch4 (bt l) 64) h i) 0) ((rnds4 kf4 (sch4 (bt l) 64) h i) 1)) (an4 ((rnds4 kf4 (sch4 (bt l) 64) h i) 0) ((rnds4 kf4 (sch4 (bt l) 64) h i) 2)))) (hv := fun _ _ => run_xor4 rfl rfl rfl)
   refine Xw ?_ (v := .pointer (some ⟨p6_6, 0 + 1, none⟩)) (hv := fun _ _ => run_ixarr (m := 8) (by decide) (by omega) Tryz.underlying194 (by kernel_rfl) rfl rfl rfl)
   refine Xc ?_ (v := .int .u32 ((rnds4 kf4 (sch4 (bt l) 64) h i) 1)) (blk_rd k_t6) (hj := by rw [Nat.zero_add]; exact arrK_get _ _ _ _ (by omega))
   refine Xw ?_ (v := .pointer (some ⟨p6_6, 0 + 2, none⟩)) (hv := fun _ _ => run_ixarr (m := 8) (by decide) (by omega) Tryz.underlying194 (by kernel_rfl) rfl rfl rfl)
   refine Xc ?_ (v := .int .u32 ((rnds4 kf4 (sch4 (bt l) 64) h i) 2)) (blk_rd k_t6) (hj := by rw [Nat.zero_add]; exact arrK_get _ _ _ _ (by omega))
   refine Xw ?_ (v := .int .u32 (an4 ((rnds4 kf4 (sch4 (bt l) 64) h i) 1) ((rnds4 kf4 (sch4 (bt l) 64) h i) 2))) (hv := fun _ _ => run_and4 rfl rfl rfl)
   refine Xw ?_ (v := .int .u32 (xo4 (xo4 (an4 ((rnds4 kf4 (sch4 (bt l) 64) h i) 0) ((rnds4 kf4 (sch4 (bt l) 64) h i) 1)) (an4 ((rnds4 kf4 (sch4 (bt l) 64) h i) 0) ((rnds4 kf4 (sch4 (bt l) 64) h i) 2))) (an4 ((rnds4 kf4 (sch4 (bt l) 64) h i) 1) ((rnds4 kf4 (sch4 (bt l) 64) h i) 2)))) (hv := fun _ _ => run_xor4 rfl rfl rfl)
   refine Xw ?_ (v := .int .u32 (rU4 (rnds4 kf4 (sch4 (bt l) 64) h i)))
   refine Xv ?_
   refine wpX_nil fun W10 hE => ?_
   have hO := off_ext hE
   replace k_t2 := k_t2.o hO
   replace k_t4 := k_t4.o hO
   replace k_t5 := k_t5.o hO
   replace k_t6 := k_t6.o hO
   replace ow_a := Sl.off ow_a hO f0
   replace off0 := off0.o hO
   clear hO hE
   refine LN ?_
   go_upto_region 8 with fail
   refine wp_region_lit ?_
   refine Lv ?_
   refine Lv ?_
   refine Lw ?_ (v := .int .u32 (ad4 (rT4 kf4 (sch4 (bt l) 64) i (rnds4 kf4 (sch4 (bt l) 64) h i)) (rU4 (rnds4 kf4 (sch4 (bt l) 64) h i)))) (hv := run_add4 rfl rfl rfl)
   refine Lw ?_ (v := .pointer (some ⟨p6_6, 0 + 0, none⟩)) (hv := run_ixarr (m := 8) (by decide) (by omega) Tryz.underlying194 (by kernel_rfl) rfl rfl rfl)
   refine Lg ?_ k_t6 (v := .int .u32 ((rnds4 kf4 (sch4 (bt l) 64) h i) 0)) (hj := by rw [Nat.zero_add]; exact arrK_get _ _ _ _ (by omega))
   refine Lw ?_ (v := .pointer (some ⟨p6_6, 0 + 1, none⟩)) (hv := run_ixarr (m := 8) (by decide) (by omega) Tryz.underlying194 (by kernel_rfl) rfl rfl rfl)
   refine Lg ?_ k_t6 (v := .int .u32 ((rnds4 kf4 (sch4 (bt l) 64) h i) 1)) (hj := by rw [Nat.zero_add]; exact arrK_get _ _ _ _ (by omega))
   refine Lw ?_ (v := .pointer (some ⟨p6_6, 0 + 2, none⟩)) (hv := run_ixarr (m := 8) (by decide) (by omega) Tryz.underlying194 (by kernel_rfl) rfl rfl rfl)
   refine Lg ?_ k_t6 (v := .int .u32 ((rnds4 kf4 (sch4 (bt l) 64) h i) 2)) (hj := by rw [Nat.zero_add]; exact arrK_get _ _ _ _ (by omega))
   refine Lw ?_ (v := .pointer (some ⟨p6_6, 0 + 3, none⟩)) (hv := run_ixarr (m := 8) (by decide) (by omega) Tryz.underlying194 (by kernel_rfl) rfl rfl rfl)
   refine Lg ?_ k_t6 (v := .int .u32 ((rnds4 kf4 (sch4 (bt l) 64) h i) 3)) (hj := by rw [Nat.zero_add]; exact arrK_get _ _ _ _ (by omega))
   refine Lv ?_
   refine Lw ?_ (v := .int .u32 (ad4 ((rnds4 kf4 (sch4 (bt l) 64) h i) 3) (rT4 kf4 (sch4 (bt l) 64) i (rnds4 kf4 (sch4 (bt l) 64) h i)))) (hv := run_add4 rfl rfl rfl)
   refine Lw ?_ (v := .pointer (some ⟨p6_6, 0 + 4, none⟩)) (hv := run_ixarr (m := 8) (by decide) (by omega) Tryz.underlying194 (by kernel_rfl) rfl rfl rfl)
   refine Lg ?_ k_t6 (v := .int .u32 ((rnds4 kf4 (sch4 (bt l) 64) h i) 4)) (hj := by rw [Nat.zero_add]; exact arrK_get _ _ _ _ (by omega))
   refine Lw ?_ (v := .pointer (some ⟨p6_6, 0 + 5, none⟩)) (hv := run_ixarr (m := 8) (by decide) (by omega) Tryz.underlying194 (by kernel_rfl) rfl rfl rfl)
   refine Lg ?_ k_t6 (v := .int .u32 ((rnds4 kf4 (sch4 (bt l) 64) h i) 5)) (hj := by rw [Nat.zero_add]; exact arrK_get _ _ _ _ (by omega))
   refine Lw ?_ (v := .pointer (some ⟨p6_6, 0 + 6, none⟩)) (hv := run_ixarr (m := 8) (by decide) (by omega) Tryz.underlying194 (by kernel_rfl) rfl rfl rfl)
   refine Lg ?_ k_t6 (v := .int .u32 ((rnds4 kf4 (sch4 (bt l) 64) h i) 6)) (hj := by rw [Nat.zero_add]; exact arrK_get _ _ _ _ (by omega))
   refine Lw ?_ (v := .agg (arrK .u32 8 (rnds4 kf4 (sch4 (bt l) 64) h (i + 1)))) (hv := by first | rfl | (go_simp; rfl))
   refine LpA ?_ k_t6 (k := .u32) (n := 8) (f := rnds4 kf4 (sch4 (bt l) 64) h (i + 1))
   intro W11 hO h_
   replace k_t6 : Blk W11 p6_6 (arrK .u32 8 (rnds4 kf4 (sch4 (bt l) 64) h (i + 1))) 194 := h_
   clear h_
   replace k_t2 := k_t2.p hO nq_t2_t6
   replace k_t4 := k_t4.p hO nq_t4_t6
   replace k_t5 := k_t5.p hO nq_t5_t6
   replace ow_a := Sl.off ow_a hO (f1 ne_a_t6)
   replace off0 := off0.p hO fb_t6
   clear hO
   refine wpL_nil ?_
   go_wp2
   go_roundw
   case rel => exact ⟨i + 1, by omega, by go_num, off0, k_t2, k_t4, k_t5, k_t6, ow_a⟩
   case measure => simp [intOf]; omega
  ·
   have _f := h64
   obtain rfl : i = 64 := by omega
   go_upto_region 4 with fail
   refine wp_region_lit ?_
   refine Lw ?_ (v := .bool false)
   refine wpL_nil ?_
   go_wp2_with fail
   go_loopw [86] (fun ii wr => ∃ (i : Nat), (i ≤ 8) ∧ (ii = .int .i64 (i : Int)) ∧ Off [] w wr ∧ Blk wr p2_1 (arrK .u32 8 (mx4 h (rnds4 kf4 (sch4 (bt l) 64) h 64) i)) 194 ∧ Blk wr p4_2 (arrK .u32 8 (fun _ => 0)) 194 ∧ Blk wr p5_4 (arrK .u32 64 (sch4 (bt l) 64)) 231 ∧ Blk wr p6_6 (arrK .u32 8 (rnds4 kf4 (sch4 (bt l) 64) h 64)) 194 ∧ Sl wr (.slice (some adr) l.length c) l)
    (fun ii _ => 8 - (intOf ii).toNat)
   case atStart => exact ⟨0, Nat.zero_le _, rfl, off0, (by rw [mx_zero4]; exact k_t2), k_t4, k_t5, k_t6, ow_a⟩
   case round =>
    obtain ⟨i, hi, rfl, off0, k_t2, k_t4, k_t5, k_t6, ow_a⟩ := hrel
    obtain ⟨W9, eW_⟩ := wname off0
    subst eW_
    by_cases h8 : i < 8
    ·
     have _f := h8
     go_upto_region 11 with fail
     refine wp_region_lit ?_
     refine Lw ?_ (v := .bool true)
     refine wpL_nil ?_
     go_upto_region 13 with fail
     refine Rx 8 ?_
     refine Xv ?_
     refine Xw ?_ (v := .pointer (some ⟨p2_1, 0 + i, none⟩)) (hv := fun _ _ => run_ixarr (m := 8) (by decide) (by omega) Tryz.underlying194 (by kernel_rfl) rfl rfl rfl)
     refine Xc ?_ (v := .int .u32 ((mx4 h (rnds4 kf4 (sch4 (bt l) 64) h 64) i) i)) (blk_rd k_t2) (hj := by rw [Nat.zero_add]; exact arrK_get _ _ _ _ (by omega))
     refine Xv ?_
     refine Xw ?_ (v := .pointer (some ⟨p6_6, 0 + i, none⟩)) (hv := fun _ _ => run_ixarr (m := 8) (by decide) (by omega) Tryz.underlying194 (by kernel_rfl) rfl rfl rfl)
     refine Xc ?_ (v := .int .u32 ((rnds4 kf4 (sch4 (bt l) 64) h 64) i)) (blk_rd k_t6) (hj := by rw [Nat.zero_add]; exact arrK_get _ _ _ _ (by omega))
     refine Xw ?_ (v := .int .u32 (ad4 ((mx4 h (rnds4 kf4 (sch4 (bt l) 64) h 64) i) i) ((rnds4 kf4 (sch4 (bt l) 64) h 64) i))) (hv := fun _ _ => run_add4 rfl rfl rfl)
     refine Xw ?_ (v := .pointer (some ⟨p2_1, 0 + i, none⟩)) (hv := fun _ _ => run_ixarr (m := 8) (by decide) (by omega) Tryz.underlying194 (by kernel_rfl) rfl rfl rfl)
     refine wpX_nil fun W10 hE => ?_
     have hO := off_ext hE
     replace k_t2 := k_t2.o hO
     replace k_t4 := k_t4.o hO
     replace k_t5 := k_t5.o hO
     replace k_t6 := k_t6.o hO
     replace ow_a := Sl.off ow_a hO f0
     replace off0 := off0.o hO
     clear hO hE
     refine wpL_put1 (v := .int .u32 (ad4 ((mx4 h (rnds4 kf4 (sch4 (bt l) 64) h 64) i) i) ((rnds4 kf4 (sch4 (bt l) 64) h 64) i))) ⟨rfl, rfl⟩ (by rfl) rfl rfl rfl k_t2 (by rw [arrK_size, Nat.zero_add]; omega) (by kernel_rfl) ?_
     (try simp only [Act.put, mA, mB, mC])
     intro W11 hO h_
     rw [Nat.zero_add, arrK_set] at h_
     replace k_t2 : Blk W11 p2_1 (arrK .u32 8 (upd (mx4 h (rnds4 kf4 (sch4 (bt l) 64) h 64) i) i (ad4 ((mx4 h (rnds4 kf4 (sch4 (bt l) 64) h 64) i) i) ((rnds4 kf4 (sch4 (bt l) 64) h 64) i)))) 194 := h_
     clear h_
     replace k_t4 := k_t4.p hO nq_t2_t4.symm
     replace k_t5 := k_t5.p hO nq_t2_t5.symm
     replace k_t6 := k_t6.p hO nq_t2_t6.symm
     replace ow_a := Sl.off ow_a hO (f1 ne_a_t2)
     replace off0 := off0.p hO fb_t2
     clear hO
     refine LN ?_
     go_wp2
     go_roundw
     case rel => exact ⟨i + 1, by omega, by go_num, off0, (by rw [← mx_step4]; exact k_t2), k_t4, k_t5, k_t6, ow_a⟩
     case measure => simp [intOf]; omega
    ·
     have _f := h8
     obtain rfl : i = 8 := by omega
     rw [mx_end4] at k_t2
     go_upto_region 11 with fail
     refine wp_region_lit ?_
     refine Lw ?_ (v := .bool false)
     refine wpL_nil ?_
     go_upto_region 15 with fail
     refine wp_region_lit ?_
     refine L0A ?_ k_t2
     refine LpA ?_ k_t4 (k := .u32) (n := 8) (f := prs4 h (bt l))
     intro W10 hO h_
     replace k_t4 : Blk W10 p4_2 (arrK .u32 8 (prs4 h (bt l))) 194 := h_
     clear h_
     replace off0 := off0.p hO fb_t4
     clear hO
     refine wpL_nil ?_
     go_wp2
     refine bodyPost_ret (res_row rfl rfl k_t4 (by kernel_rfl) (by rw [arrK_size]; kernel_rfl)) rfl ⟨rfl, off0.ext⟩
end Go.Proofs.YtejkmhgkkibafaaGreatDoor
