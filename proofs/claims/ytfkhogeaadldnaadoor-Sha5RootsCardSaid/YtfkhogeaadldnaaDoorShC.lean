/- sha5.press: a block worked into eight words. Conditions: the slice has 128 bytes; the cells of the two tables hold their numbers. -/
import Derived.Test.YtfkhogeaadldnaaDoorShB
namespace Go.Proofs.YtfkhogeaadldnaaDoor
set_option linter.unusedSimpArgs false
set_option linter.unusedVariables false
open Go.RowKit
attribute [local irreducible] wpList

def kk : List Int := [4794697086780616226, 8158064640168781261, 13096744586834688815, 16840607885511220156, 4131703408338449720, 6480981068601479193, 10538285296894168987, 12329834152419229976, 15566598209576043074, 1334009975649890238, 2608012711638119052, 6128411473006802146, 8268148722764581231, 9286055187155687089, 11230858885718282805, 13951009754708518548, 16472876342353939154, 17275323862435702243, 1135362057144423861, 2597628984639134821, 3308224258029322869, 5365058923640841347, 6679025012923562964, 8573033837759648693, 10970295158949994411, 12119686244451234320, 12683024718118986047, 13788192230050041572, 14330467153632333762, 15395433587784984357, 489312712824947311, 1452737877330783856, 2861767655752347644, 3322285676063803686, 5560940570517711597, 5996557281743188959, 7280758554555802590, 8532644243296465576, 9350256976987008742, 10552545826968843579, 11727347734174303076, 12113106623233404929, 14000437183269869457, 14369950271660146224, 15101387698204529176, 15463397548674623760, 17586052441742319658, 1182934255886127544, 1847814050463011016, 2177327727835720531, 2830643537854262169, 3796741975233480872, 4115178125766777443, 5681478168544905931, 6601373596472566643, 7507060721942968483, 8399075790359081724, 8693463985226723168, 9568029438360202098, 10144078919501101548, 10430055236837252648, 11840083180663258601, 13761210420658862357, 14299343276471374635, 14566680578165727644, 15097957966210449927, 16922976911328602910, 17689382322260857208, 500013540394364858, 748580250866718886, 1242879168328830382, 1977374033974150939, 2944078676154940804, 3659926193048069267, 4368137639120453308, 4836135668995329356, 5532061633213252278, 6448918945643986474, 6902733635092675308, 7801388544844847127]
def hh : List Int := [7640891576956012808, 13503953896175478587, 4354685564936845355, 11912009170470909681, 5840696475078001361, 11170449401992604703, 2270897969802886507, 6620516959819538809]
/-- the two tables by place -/
def kf (i : Nat) : Int := kk.getD i 0
def hf (i : Nat) : Int := hh.getD i 0
def GS (w : World) : Prop := Rd w 3 (arrK .u64 80 kf) ∧ Rd w 0 (arrK .u64 8 hf)
theorem GS_ext {w W : World} (h : GS w) (e : Ext w W) : GS W := ⟨h.1.ext e, h.2.ext e⟩
def rT (k w : Nat → Int) (i : Nat) (v : Nat → Int) : Int := ad (ad (ad (ad (v 7) (xo (xo (rt (v 4) 14) (rt (v 4) 18)) (rt (v 4) 41))) (xo (an (v 4) (v 5)) (an (nt (v 4)) (v 6)))) (k i)) (w i)
def rU (v : Nat → Int) : Int := ad (xo (xo (rt (v 0) 28) (rt (v 0) 34)) (rt (v 0) 39)) (xo (xo (an (v 0) (v 1)) (an (v 0) (v 2))) (an (v 1) (v 2)))
def rnd (k w : Nat → Int) (i : Nat) (v : Nat → Int) : Nat → Int
  | 0 => ad (rT k w i v) (rU v)
  | 1 => v 0
  | 2 => v 1
  | 3 => v 2
  | 4 => ad (v 3) (rT k w i v)
  | 5 => v 4
  | 6 => v 5
  | 7 => v 6
  | _ => 0
def rnds (k w v : Nat → Int) : Nat → Nat → Int
  | 0 => v
  | i + 1 => rnd k w i (rnds k w v i)
/-- a block worked in -/
def prs (h b : Nat → Int) (j : Nat) : Int := ad (h j) (rnds kf (sch b 80) h 80 j)
def mx (h v : Nat → Int) (i j : Nat) : Int := if j < i then ad (h j) (v j) else h j
theorem mx_step (h v : Nat → Int) (i : Nat) : upd (mx h v i) i (ad (mx h v i i) (v i)) = mx h v (i + 1) := by
  funext j
  unfold upd mx
  by_cases hj : j = i
  · subst hj; rw [if_pos rfl, if_neg (by omega), if_pos (by omega)]
  · rw [if_neg hj]
    by_cases hl : j < i
    · rw [if_pos hl, if_pos (by omega)]
    · rw [if_neg hl, if_neg (by omega)]
theorem mx_zero (h v : Nat → Int) : mx h v 0 = h := by funext j; unfold mx; rw [if_neg (by omega)]
theorem mx_end (h b : Nat → Int) : arrK .u64 8 (mx h (rnds kf (sch b 80) h 80) 8) = arrK .u64 8 (prs h b) := arrK_congr _ _ _ _ fun j hj => by unfold mx prs; rw [if_pos hj]

set_option maxRecDepth 100000 in
set_option maxHeartbeats 4000000 in
theorem press_c (h : Nat → Int) (l : List UInt8) (adr : Addr) (c : Nat) (hl : 128 ≤ l.length) (w : World) (hs : Sl w (.slice (some adr) l.length c) l) (hG : GS w) :
    Calls Tryd.prog 13 #[.agg (arrK .u64 8 h), .slice (some adr) l.length c] w fun e w' => Ret (.agg (arrK .u64 8 (prs h (bt l)))) w w' e := by
  have HG := Lib.hid hG
  clear hG
  have off0 : Off [] w w := Off.refl _ _
  have sz := off0.size
  have ow_a := hs
  go_enter Tryd.func13, Tryd.ntmps13
  go_upto_region 0 with fail
  refine wp_region_lit ?_
  refine wpL_new (z := arrK .u64 8 h) (t := 36) (by rfl) (by first | kernel_rfl | (go_simp; done) | (go_simp; rfl)) ?_
  (try simp only [Act.put, List.setIfInBounds_toArray, List.set_cons_zero, List.set_cons_succ])
  intro p2_1 W1 n_t2 hO h_
  have ne_a_t2 := ne_new (Sl.lt ow_a) n_t2
  have fb_t2 : Fb p2_1 w.heap.size [] := fb_new (Nat.le_trans sz n_t2)
  replace ow_a := Sl.off ow_a hO f0
  replace off0 := off0.step hO i0
  replace sz := off0.size
  have k_t2 := h_
  clear hO h_ n_t2
  refine wpL_new (z := arrK .u64 8 (fun _ => 0)) (t := 36) (by rfl) (by first | kernel_rfl | (go_simp; done) | (go_simp; rfl)) ?_
  (try simp only [Act.put, List.setIfInBounds_toArray, List.set_cons_zero, List.set_cons_succ])
  intro p4_2 W2 n_t4 hO h_
  have nq_t2_t4 : p2_1 ≠ p4_2 := Nat.ne_of_lt (Nat.lt_of_lt_of_le (blk_lt k_t2) n_t4)
  have ne_a_t4 := ne_new (Sl.lt ow_a) n_t4
  have fb_t4 : Fb p4_2 w.heap.size [] := fb_new (Nat.le_trans sz n_t4)
  replace k_t2 := blk_off k_t2 hO nm0
  replace ow_a := Sl.off ow_a hO f0
  replace off0 := off0.step hO i0
  replace sz := off0.size
  have k_t4 := h_
  clear hO h_ n_t4
  refine wpL_nil ?_
  go_upto_region 1 with fail
  refine wp_region_lit ?_
  (refine wpL_val (v := ?_) (by rfl) ?_ ?_; rotate_left 1; (focus (go_simp; first | done | with_reducible rfl)))
  (try simp only [Act.put, List.setIfInBounds_toArray, List.set_cons_zero, List.set_cons_succ])
  refine wpL_ret (spread_c l adr c hl W2 ow_a) (by rfl) rfl (by kernel_rfl) rfl ?_
  (try simp only [Act.put, List.setIfInBounds_toArray, List.set_cons_zero, List.set_cons_succ])
  intro W3 hO
  replace k_t2 := blk_off k_t2 hO nm0
  replace k_t4 := blk_off k_t4 hO nm0
  replace ow_a := Sl.off ow_a hO f0
  replace off0 := off0.step hO i0
  replace sz := off0.size
  clear hO
  refine wpL_new (z := arrK .u64 80 (fun _ => 0)) (t := 38) (by rfl) (by first | kernel_rfl | (go_simp; done) | (go_simp; rfl)) ?_
  (try simp only [Act.put, List.setIfInBounds_toArray, List.set_cons_zero, List.set_cons_succ])
  intro p5_4 W4 n_t5 hO h_
  have nq_t2_t5 : p2_1 ≠ p5_4 := Nat.ne_of_lt (Nat.lt_of_lt_of_le (blk_lt k_t2) n_t5)
  have nq_t4_t5 : p4_2 ≠ p5_4 := Nat.ne_of_lt (Nat.lt_of_lt_of_le (blk_lt k_t4) n_t5)
  have ne_a_t5 := ne_new (Sl.lt ow_a) n_t5
  have fb_t5 : Fb p5_4 w.heap.size [] := fb_new (Nat.le_trans sz n_t5)
  replace k_t2 := blk_off k_t2 hO nm0
  replace k_t4 := blk_off k_t4 hO nm0
  replace ow_a := Sl.off ow_a hO f0
  replace off0 := off0.step hO i0
  replace sz := off0.size
  have k_t5 := h_
  clear hO h_ n_t5
  refine wpL_putrow (cells := arrK .u64 80 (sch (bt l) 80)) (by rfl) rfl rfl rfl k_t5 (by rw [arrK_size]; kernel_rfl) (by rw [arrK_size, arrK_size]) (by exact arrK_one _ _ _) ?_
  (try simp only [Act.put, List.setIfInBounds_toArray, List.set_cons_zero, List.set_cons_succ])
  intro W5 hO h_
  replace k_t5 : Blk W5 p5_4 (arrK .u64 80 (sch (bt l) 80)) 38 := h_
  clear h_
  replace k_t2 := blk_off k_t2 hO (nm1 nq_t2_t5)
  replace k_t4 := blk_off k_t4 hO (nm1 nq_t4_t5)
  replace ow_a := Sl.off ow_a hO (f1 ne_a_t5)
  replace off0 := off0.step hO (i1 fb_t5)
  replace sz := off0.size
  clear hO
  refine wpL_nil ?_
  go_upto_region 2 with fail
  refine wp_region_lit ?_
  refine wpL_load0 (by rfl) rfl rfl k_t2 (by kernel_rfl) (by rw [arrK_size]; kernel_rfl) ?_
  (try simp only [Act.put, List.setIfInBounds_toArray, List.set_cons_zero, List.set_cons_succ])
  refine wpL_new (z := arrK .u64 8 (fun _ => 0)) (t := 36) (by rfl) (by first | kernel_rfl | (go_simp; done) | (go_simp; rfl)) ?_
  (try simp only [Act.put, List.setIfInBounds_toArray, List.set_cons_zero, List.set_cons_succ])
  intro p6_6 W6 n_t6 hO h_
  have nq_t2_t6 : p2_1 ≠ p6_6 := Nat.ne_of_lt (Nat.lt_of_lt_of_le (blk_lt k_t2) n_t6)
  have nq_t4_t6 : p4_2 ≠ p6_6 := Nat.ne_of_lt (Nat.lt_of_lt_of_le (blk_lt k_t4) n_t6)
  have nq_t5_t6 : p5_4 ≠ p6_6 := Nat.ne_of_lt (Nat.lt_of_lt_of_le (blk_lt k_t5) n_t6)
  have ne_a_t6 := ne_new (Sl.lt ow_a) n_t6
  have fb_t6 : Fb p6_6 w.heap.size [] := fb_new (Nat.le_trans sz n_t6)
  replace k_t2 := blk_off k_t2 hO nm0
  replace k_t4 := blk_off k_t4 hO nm0
  replace k_t5 := blk_off k_t5 hO nm0
  replace ow_a := Sl.off ow_a hO f0
  replace off0 := off0.step hO i0
  replace sz := off0.size
  have k_t6 := h_
  clear hO h_ n_t6
  refine wpL_putrow (cells := arrK .u64 8 h) (by rfl) rfl rfl rfl k_t6 (by rw [arrK_size]; kernel_rfl) (by rw [arrK_size, arrK_size]) (by exact arrK_one _ _ _) ?_
  (try simp only [Act.put, List.setIfInBounds_toArray, List.set_cons_zero, List.set_cons_succ])
  intro W7 hO h_
  replace k_t6 : Blk W7 p6_6 (arrK .u64 8 h) 36 := h_
  clear h_
  replace k_t2 := blk_off k_t2 hO (nm1 nq_t2_t6)
  replace k_t4 := blk_off k_t4 hO (nm1 nq_t4_t6)
  replace k_t5 := blk_off k_t5 hO (nm1 nq_t5_t6)
  replace ow_a := Sl.off ow_a hO (f1 ne_a_t6)
  replace off0 := off0.step hO (i1 fb_t6)
  replace sz := off0.size
  clear hO
  refine wpL_nil ?_
  go_wp2_with fail
  go_loopw [14] (fun ii wr => ∃ (i : Nat), (i ≤ 80) ∧ (ii = .int .i64 (i : Int)) ∧ Off [] w wr ∧ Blk wr p2_1 (arrK .u64 8 h) 36 ∧ Blk wr p4_2 (arrK .u64 8 (fun _ => 0)) 36 ∧ Blk wr p5_4 (arrK .u64 80 (sch (bt l) 80)) 38 ∧ Blk wr p6_6 (arrK .u64 8 (rnds kf (sch (bt l) 80) h i)) 36 ∧ Sl wr (.slice (some adr) l.length c) l)
    (fun ii _ => 80 - (intOf ii).toNat)
  case atStart => exact ⟨0, Nat.zero_le _, rfl, off0, k_t2, k_t4, k_t5, k_t6, ow_a⟩
  case round =>
    obtain ⟨i, hi, rfl, off0, k_t2, k_t4, k_t5, k_t6, ow_a⟩ := hrel
    obtain ⟨W8, eW_⟩ := wname off0
    subst eW_
    have sz := off0.size
    by_cases h80 : i < 80
    · have _f := h80
      go_upto_region 4 with fail
      refine wp_region_lit ?_
      refine wpL_val (v := .bool true) (by rfl) (by first | rfl | (go_simp; done) | (go_simp; with_reducible rfl) | (go_simp; omega)) ?_
      (try simp only [Act.put, List.setIfInBounds_toArray, List.set_cons_zero, List.set_cons_succ])
      refine wpL_nil ?_
      go_upto_region 6 with fail
      refine wp_region_xn 36 [] (by kernel_rfl) (fun x hx => by cases hx) (by kernel_rfl) ?_
      simp only [List.take_succ_cons, List.take_zero, List.take_nil]
      (try simp only [Act.put, List.setIfInBounds_toArray, List.set_cons_zero, List.set_cons_succ])
      refine wpX_val (v := .pointer (some ⟨p6_6, 0 + 7, none⟩)) (by rfl) (fun _ _ => run_ixarr (m := 8) (by decide) (by omega) Tryd.underlying36 (by kernel_rfl) rfl rfl rfl) ?_
      (try simp only [Act.put, List.setIfInBounds_toArray, List.set_cons_zero, List.set_cons_succ])
      refine wpX_cell (v := .int .u64 ((rnds kf (sch (bt l) 80) h i) 7)) (blk_rd k_t6) (by rw [Nat.zero_add]; exact arrK_get _ _ _ _ (by omega)) (by rfl) rfl rfl (by kernel_rfl) ?_
      (try simp only [Act.put, List.setIfInBounds_toArray, List.set_cons_zero, List.set_cons_succ])
      refine wpX_val (v := .pointer (some ⟨p6_6, 0 + 4, none⟩)) (by rfl) (fun _ _ => run_ixarr (m := 8) (by decide) (by omega) Tryd.underlying36 (by kernel_rfl) rfl rfl rfl) ?_
      (try simp only [Act.put, List.setIfInBounds_toArray, List.set_cons_zero, List.set_cons_succ])
      refine wpX_cell (v := .int .u64 ((rnds kf (sch (bt l) 80) h i) 4)) (blk_rd k_t6) (by rw [Nat.zero_add]; exact arrK_get _ _ _ _ (by omega)) (by rfl) rfl rfl (by kernel_rfl) ?_
      (try simp only [Act.put, List.setIfInBounds_toArray, List.set_cons_zero, List.set_cons_succ])
      ((with_reducible refine wpX_fn (fun W hW => turn_c ((rnds kf (sch (bt l) 80) h i) 4) 14 (by decide) (by decide) W) ?_ rfl ?_ ?_ ?_); (focus rfl); (focus kernel_rfl); (focus rfl); (try simp only [Act.put, List.setIfInBounds_toArray, List.set_cons_zero, List.set_cons_succ]))
      refine wpX_val (v := .pointer (some ⟨p6_6, 0 + 4, none⟩)) (by rfl) (fun _ _ => run_ixarr (m := 8) (by decide) (by omega) Tryd.underlying36 (by kernel_rfl) rfl rfl rfl) ?_
      (try simp only [Act.put, List.setIfInBounds_toArray, List.set_cons_zero, List.set_cons_succ])
      refine wpX_cell (v := .int .u64 ((rnds kf (sch (bt l) 80) h i) 4)) (blk_rd k_t6) (by rw [Nat.zero_add]; exact arrK_get _ _ _ _ (by omega)) (by rfl) rfl rfl (by kernel_rfl) ?_
      (try simp only [Act.put, List.setIfInBounds_toArray, List.set_cons_zero, List.set_cons_succ])
      ((with_reducible refine wpX_fn (fun W hW => turn_c ((rnds kf (sch (bt l) 80) h i) 4) 18 (by decide) (by decide) W) ?_ rfl ?_ ?_ ?_); (focus rfl); (focus kernel_rfl); (focus rfl); (try simp only [Act.put, List.setIfInBounds_toArray, List.set_cons_zero, List.set_cons_succ]))
      refine wpX_val (v := .int .u64 (xo (rt ((rnds kf (sch (bt l) 80) h i) 4) 14) (rt ((rnds kf (sch (bt l) 80) h i) 4) 18))) (by rfl) (fun _ _ => run_xor rfl rfl rfl) ?_
      (try simp only [Act.put, List.setIfInBounds_toArray, List.set_cons_zero, List.set_cons_succ])
      refine wpX_val (v := .pointer (some ⟨p6_6, 0 + 4, none⟩)) (by rfl) (fun _ _ => run_ixarr (m := 8) (by decide) (by omega) Tryd.underlying36 (by kernel_rfl) rfl rfl rfl) ?_
      (try simp only [Act.put, List.setIfInBounds_toArray, List.set_cons_zero, List.set_cons_succ])
      refine wpX_cell (v := .int .u64 ((rnds kf (sch (bt l) 80) h i) 4)) (blk_rd k_t6) (by rw [Nat.zero_add]; exact arrK_get _ _ _ _ (by omega)) (by rfl) rfl rfl (by kernel_rfl) ?_
      (try simp only [Act.put, List.setIfInBounds_toArray, List.set_cons_zero, List.set_cons_succ])
      ((with_reducible refine wpX_fn (fun W hW => turn_c ((rnds kf (sch (bt l) 80) h i) 4) 41 (by decide) (by decide) W) ?_ rfl ?_ ?_ ?_); (focus rfl); (focus kernel_rfl); (focus rfl); (try simp only [Act.put, List.setIfInBounds_toArray, List.set_cons_zero, List.set_cons_succ]))
      refine wpX_val (v := .int .u64 (xo (xo (rt ((rnds kf (sch (bt l) 80) h i) 4) 14) (rt ((rnds kf (sch (bt l) 80) h i) 4) 18)) (rt ((rnds kf (sch (bt l) 80) h i) 4) 41))) (by rfl) (fun _ _ => run_xor rfl rfl rfl) ?_
      (try simp only [Act.put, List.setIfInBounds_toArray, List.set_cons_zero, List.set_cons_succ])
      refine wpX_val (v := .int .u64 (ad ((rnds kf (sch (bt l) 80) h i) 7) (xo (xo (rt ((rnds kf (sch (bt l) 80) h i) 4) 14) (rt ((rnds kf (sch (bt l) 80) h i) 4) 18)) (rt ((rnds kf (sch (bt l) 80) h i) 4) 41)))) (by rfl) (fun _ _ => run_add rfl rfl rfl) ?_
      (try simp only [Act.put, List.setIfInBounds_toArray, List.set_cons_zero, List.set_cons_succ])
      refine wpX_val (v := .pointer (some ⟨p6_6, 0 + 4, none⟩)) (by rfl) (fun _ _ => run_ixarr (m := 8) (by decide) (by omega) Tryd.underlying36 (by kernel_rfl) rfl rfl rfl) ?_
      (try simp only [Act.put, List.setIfInBounds_toArray, List.set_cons_zero, List.set_cons_succ])
      refine wpX_cell (v := .int .u64 ((rnds kf (sch (bt l) 80) h i) 4)) (blk_rd k_t6) (by rw [Nat.zero_add]; exact arrK_get _ _ _ _ (by omega)) (by rfl) rfl rfl (by kernel_rfl) ?_
      (try simp only [Act.put, List.setIfInBounds_toArray, List.set_cons_zero, List.set_cons_succ])
      refine wpX_val (v := .pointer (some ⟨p6_6, 0 + 5, none⟩)) (by rfl) (fun _ _ => run_ixarr (m := 8) (by decide) (by omega) Tryd.underlying36 (by kernel_rfl) rfl rfl rfl) ?_
      (try simp only [Act.put, List.setIfInBounds_toArray, List.set_cons_zero, List.set_cons_succ])
      refine wpX_cell (v := .int .u64 ((rnds kf (sch (bt l) 80) h i) 5)) (blk_rd k_t6) (by rw [Nat.zero_add]; exact arrK_get _ _ _ _ (by omega)) (by rfl) rfl rfl (by kernel_rfl) ?_
      (try simp only [Act.put, List.setIfInBounds_toArray, List.set_cons_zero, List.set_cons_succ])
      refine wpX_val (v := .int .u64 (an ((rnds kf (sch (bt l) 80) h i) 4) ((rnds kf (sch (bt l) 80) h i) 5))) (by rfl) (fun _ _ => run_and rfl rfl rfl) ?_
      (try simp only [Act.put, List.setIfInBounds_toArray, List.set_cons_zero, List.set_cons_succ])
      refine wpX_val (v := .pointer (some ⟨p6_6, 0 + 4, none⟩)) (by rfl) (fun _ _ => run_ixarr (m := 8) (by decide) (by omega) Tryd.underlying36 (by kernel_rfl) rfl rfl rfl) ?_
      (try simp only [Act.put, List.setIfInBounds_toArray, List.set_cons_zero, List.set_cons_succ])
      refine wpX_cell (v := .int .u64 ((rnds kf (sch (bt l) 80) h i) 4)) (blk_rd k_t6) (by rw [Nat.zero_add]; exact arrK_get _ _ _ _ (by omega)) (by rfl) rfl rfl (by kernel_rfl) ?_
      (try simp only [Act.put, List.setIfInBounds_toArray, List.set_cons_zero, List.set_cons_succ])
      refine wpX_val (v := .int .u64 (nt ((rnds kf (sch (bt l) 80) h i) 4))) (by rfl) (fun _ _ => run_not rfl rfl) ?_
      (try simp only [Act.put, List.setIfInBounds_toArray, List.set_cons_zero, List.set_cons_succ])
      refine wpX_val (v := .pointer (some ⟨p6_6, 0 + 6, none⟩)) (by rfl) (fun _ _ => run_ixarr (m := 8) (by decide) (by omega) Tryd.underlying36 (by kernel_rfl) rfl rfl rfl) ?_
      (try simp only [Act.put, List.setIfInBounds_toArray, List.set_cons_zero, List.set_cons_succ])
      refine wpX_cell (v := .int .u64 ((rnds kf (sch (bt l) 80) h i) 6)) (blk_rd k_t6) (by rw [Nat.zero_add]; exact arrK_get _ _ _ _ (by omega)) (by rfl) rfl rfl (by kernel_rfl) ?_
      (try simp only [Act.put, List.setIfInBounds_toArray, List.set_cons_zero, List.set_cons_succ])
      refine wpX_val (v := .int .u64 (an (nt ((rnds kf (sch (bt l) 80) h i) 4)) ((rnds kf (sch (bt l) 80) h i) 6))) (by rfl) (fun _ _ => run_and rfl rfl rfl) ?_
      (try simp only [Act.put, List.setIfInBounds_toArray, List.set_cons_zero, List.set_cons_succ])
      refine wpX_val (v := .int .u64 (xo (an ((rnds kf (sch (bt l) 80) h i) 4) ((rnds kf (sch (bt l) 80) h i) 5)) (an (nt ((rnds kf (sch (bt l) 80) h i) 4)) ((rnds kf (sch (bt l) 80) h i) 6)))) (by rfl) (fun _ _ => run_xor rfl rfl rfl) ?_
      (try simp only [Act.put, List.setIfInBounds_toArray, List.set_cons_zero, List.set_cons_succ])
      refine wpX_val (v := .int .u64 (ad (ad ((rnds kf (sch (bt l) 80) h i) 7) (xo (xo (rt ((rnds kf (sch (bt l) 80) h i) 4) 14) (rt ((rnds kf (sch (bt l) 80) h i) 4) 18)) (rt ((rnds kf (sch (bt l) 80) h i) 4) 41))) (xo (an ((rnds kf (sch (bt l) 80) h i) 4) ((rnds kf (sch (bt l) 80) h i) 5)) (an (nt ((rnds kf (sch (bt l) 80) h i) 4)) ((rnds kf (sch (bt l) 80) h i) 6))))) (by rfl) (fun _ _ => run_add rfl rfl rfl) ?_
      (try simp only [Act.put, List.setIfInBounds_toArray, List.set_cons_zero, List.set_cons_succ])
      (refine wpX_val (v := ?_) (by rfl) (fun W hW => ?_) ?_; rotate_left 1; (focus (go_simp; first | done | with_reducible rfl)); (try simp only [Act.put, List.setIfInBounds_toArray, List.set_cons_zero, List.set_cons_succ]))
      refine wpX_val (v := .pointer (some ⟨3, 0 + i, none⟩)) (by rfl) (fun _ _ => run_ixarr (m := 80) (by decide) (by omega) Tryd.underlying38 (by kernel_rfl) rfl rfl rfl) ?_
      (try simp only [Act.put, List.setIfInBounds_toArray, List.set_cons_zero, List.set_cons_succ])
      refine wpX_cell (v := .int .u64 (kf i)) ((GS_ext HG.out off0.ext).1) (by rw [Nat.zero_add]; exact arrK_get _ _ _ _ (by omega)) (by rfl) rfl rfl (by kernel_rfl) ?_
      (try simp only [Act.put, List.setIfInBounds_toArray, List.set_cons_zero, List.set_cons_succ])
      refine wpX_val (v := .int .u64 (ad (ad (ad ((rnds kf (sch (bt l) 80) h i) 7) (xo (xo (rt ((rnds kf (sch (bt l) 80) h i) 4) 14) (rt ((rnds kf (sch (bt l) 80) h i) 4) 18)) (rt ((rnds kf (sch (bt l) 80) h i) 4) 41))) (xo (an ((rnds kf (sch (bt l) 80) h i) 4) ((rnds kf (sch (bt l) 80) h i) 5)) (an (nt ((rnds kf (sch (bt l) 80) h i) 4)) ((rnds kf (sch (bt l) 80) h i) 6)))) (kf i))) (by rfl) (fun _ _ => run_add rfl rfl rfl) ?_
      (try simp only [Act.put, List.setIfInBounds_toArray, List.set_cons_zero, List.set_cons_succ])
      (refine wpX_val (v := ?_) (by rfl) (fun W hW => ?_) ?_; rotate_left 1; (focus (go_simp; first | done | with_reducible rfl)); (try simp only [Act.put, List.setIfInBounds_toArray, List.set_cons_zero, List.set_cons_succ]))
      refine wpX_val (v := .pointer (some ⟨p5_4, 0 + i, none⟩)) (by rfl) (fun _ _ => run_ixarr (m := 80) (by decide) (by omega) Tryd.underlying38 (by kernel_rfl) rfl rfl rfl) ?_
      (try simp only [Act.put, List.setIfInBounds_toArray, List.set_cons_zero, List.set_cons_succ])
      refine wpX_cell (v := .int .u64 ((sch (bt l) 80) i)) (blk_rd k_t5) (by rw [Nat.zero_add]; exact arrK_get _ _ _ _ (by omega)) (by rfl) rfl rfl (by kernel_rfl) ?_
      (try simp only [Act.put, List.setIfInBounds_toArray, List.set_cons_zero, List.set_cons_succ])
      refine wpX_val (v := .int .u64 (rT kf (sch (bt l) 80) i (rnds kf (sch (bt l) 80) h i))) (by rfl) (fun _ _ => by first | rfl | (go_simp; done) | (go_simp; with_reducible rfl)) ?_
      (try simp only [Act.put, List.setIfInBounds_toArray, List.set_cons_zero, List.set_cons_succ])
      (refine wpX_val (v := ?_) (by rfl) (fun W hW => ?_) ?_; rotate_left 1; (focus (go_simp; first | done | with_reducible rfl)); (try simp only [Act.put, List.setIfInBounds_toArray, List.set_cons_zero, List.set_cons_succ]))
      refine wpX_nil ?_
      intro β W9 hE hN hD
      clear hN hD
      simp only [putAll, Act.put, List.setIfInBounds_toArray, List.set_cons_zero, List.set_cons_succ, List.drop_succ_cons, List.drop_zero, List.drop_nil, List.length_nil, Nat.add_zero]
      have hO := off_ext hE
      replace k_t2 := blk_off k_t2 hO nm0
      replace k_t4 := blk_off k_t4 hO nm0
      replace k_t5 := blk_off k_t5 hO nm0
      replace k_t6 := blk_off k_t6 hO nm0
      replace ow_a := Sl.off ow_a hO f0
      replace off0 := off0.step hO i0
      replace sz := off0.size
      clear hO hE β
      refine wpL_nil ?_
      first | refine NoPanic.normal (Q := Exit.then _ _) ?_ | refine NoPanic.normal ?_
      go_upto_region 7 with fail
      refine wp_region_xn 30 [] (by kernel_rfl) (fun x hx => by cases hx) (by kernel_rfl) ?_
      simp only [List.take_succ_cons, List.take_zero, List.take_nil]
      (try simp only [Act.put, List.setIfInBounds_toArray, List.set_cons_zero, List.set_cons_succ])
      refine wpX_val (v := .pointer (some ⟨p6_6, 0 + 0, none⟩)) (by rfl) (fun _ _ => run_ixarr (m := 8) (by decide) (by omega) Tryd.underlying36 (by kernel_rfl) rfl rfl rfl) ?_
      (try simp only [Act.put, List.setIfInBounds_toArray, List.set_cons_zero, List.set_cons_succ])
      refine wpX_cell (v := .int .u64 ((rnds kf (sch (bt l) 80) h i) 0)) (blk_rd k_t6) (by rw [Nat.zero_add]; exact arrK_get _ _ _ _ (by omega)) (by rfl) rfl rfl (by kernel_rfl) ?_
      (try simp only [Act.put, List.setIfInBounds_toArray, List.set_cons_zero, List.set_cons_succ])
      ((with_reducible refine wpX_fn (fun W hW => turn_c ((rnds kf (sch (bt l) 80) h i) 0) 28 (by decide) (by decide) W) ?_ rfl ?_ ?_ ?_); (focus rfl); (focus kernel_rfl); (focus rfl); (try simp only [Act.put, List.setIfInBounds_toArray, List.set_cons_zero, List.set_cons_succ]))
      refine wpX_val (v := .pointer (some ⟨p6_6, 0 + 0, none⟩)) (by rfl) (fun _ _ => run_ixarr (m := 8) (by decide) (by omega) Tryd.underlying36 (by kernel_rfl) rfl rfl rfl) ?_
      (try simp only [Act.put, List.setIfInBounds_toArray, List.set_cons_zero, List.set_cons_succ])
      refine wpX_cell (v := .int .u64 ((rnds kf (sch (bt l) 80) h i) 0)) (blk_rd k_t6) (by rw [Nat.zero_add]; exact arrK_get _ _ _ _ (by omega)) (by rfl) rfl rfl (by kernel_rfl) ?_
      (try simp only [Act.put, List.setIfInBounds_toArray, List.set_cons_zero, List.set_cons_succ])
      ((with_reducible refine wpX_fn (fun W hW => turn_c ((rnds kf (sch (bt l) 80) h i) 0) 34 (by decide) (by decide) W) ?_ rfl ?_ ?_ ?_); (focus rfl); (focus kernel_rfl); (focus rfl); (try simp only [Act.put, List.setIfInBounds_toArray, List.set_cons_zero, List.set_cons_succ]))
      refine wpX_val (v := .int .u64 (xo (rt ((rnds kf (sch (bt l) 80) h i) 0) 28) (rt ((rnds kf (sch (bt l) 80) h i) 0) 34))) (by rfl) (fun _ _ => run_xor rfl rfl rfl) ?_
      (try simp only [Act.put, List.setIfInBounds_toArray, List.set_cons_zero, List.set_cons_succ])
      refine wpX_val (v := .pointer (some ⟨p6_6, 0 + 0, none⟩)) (by rfl) (fun _ _ => run_ixarr (m := 8) (by decide) (by omega) Tryd.underlying36 (by kernel_rfl) rfl rfl rfl) ?_
      (try simp only [Act.put, List.setIfInBounds_toArray, List.set_cons_zero, List.set_cons_succ])
      refine wpX_cell (v := .int .u64 ((rnds kf (sch (bt l) 80) h i) 0)) (blk_rd k_t6) (by rw [Nat.zero_add]; exact arrK_get _ _ _ _ (by omega)) (by rfl) rfl rfl (by kernel_rfl) ?_
      (try simp only [Act.put, List.setIfInBounds_toArray, List.set_cons_zero, List.set_cons_succ])
      ((with_reducible refine wpX_fn (fun W hW => turn_c ((rnds kf (sch (bt l) 80) h i) 0) 39 (by decide) (by decide) W) ?_ rfl ?_ ?_ ?_); (focus rfl); (focus kernel_rfl); (focus rfl); (try simp only [Act.put, List.setIfInBounds_toArray, List.set_cons_zero, List.set_cons_succ]))
      refine wpX_val (v := .int .u64 (xo (xo (rt ((rnds kf (sch (bt l) 80) h i) 0) 28) (rt ((rnds kf (sch (bt l) 80) h i) 0) 34)) (rt ((rnds kf (sch (bt l) 80) h i) 0) 39))) (by rfl) (fun _ _ => run_xor rfl rfl rfl) ?_
      (try simp only [Act.put, List.setIfInBounds_toArray, List.set_cons_zero, List.set_cons_succ])
      refine wpX_val (v := .pointer (some ⟨p6_6, 0 + 0, none⟩)) (by rfl) (fun _ _ => run_ixarr (m := 8) (by decide) (by omega) Tryd.underlying36 (by kernel_rfl) rfl rfl rfl) ?_
      (try simp only [Act.put, List.setIfInBounds_toArray, List.set_cons_zero, List.set_cons_succ])
      refine wpX_cell (v := .int .u64 ((rnds kf (sch (bt l) 80) h i) 0)) (blk_rd k_t6) (by rw [Nat.zero_add]; exact arrK_get _ _ _ _ (by omega)) (by rfl) rfl rfl (by kernel_rfl) ?_
      (try simp only [Act.put, List.setIfInBounds_toArray, List.set_cons_zero, List.set_cons_succ])
      refine wpX_val (v := .pointer (some ⟨p6_6, 0 + 1, none⟩)) (by rfl) (fun _ _ => run_ixarr (m := 8) (by decide) (by omega) Tryd.underlying36 (by kernel_rfl) rfl rfl rfl) ?_
      (try simp only [Act.put, List.setIfInBounds_toArray, List.set_cons_zero, List.set_cons_succ])
      refine wpX_cell (v := .int .u64 ((rnds kf (sch (bt l) 80) h i) 1)) (blk_rd k_t6) (by rw [Nat.zero_add]; exact arrK_get _ _ _ _ (by omega)) (by rfl) rfl rfl (by kernel_rfl) ?_
      (try simp only [Act.put, List.setIfInBounds_toArray, List.set_cons_zero, List.set_cons_succ])
      refine wpX_val (v := .int .u64 (an ((rnds kf (sch (bt l) 80) h i) 0) ((rnds kf (sch (bt l) 80) h i) 1))) (by rfl) (fun _ _ => run_and rfl rfl rfl) ?_
      (try simp only [Act.put, List.setIfInBounds_toArray, List.set_cons_zero, List.set_cons_succ])
      refine wpX_val (v := .pointer (some ⟨p6_6, 0 + 0, none⟩)) (by rfl) (fun _ _ => run_ixarr (m := 8) (by decide) (by omega) Tryd.underlying36 (by kernel_rfl) rfl rfl rfl) ?_
      (try simp only [Act.put, List.setIfInBounds_toArray, List.set_cons_zero, List.set_cons_succ])
      refine wpX_cell (v := .int .u64 ((rnds kf (sch (bt l) 80) h i) 0)) (blk_rd k_t6) (by rw [Nat.zero_add]; exact arrK_get _ _ _ _ (by omega)) (by rfl) rfl rfl (by kernel_rfl) ?_
      (try simp only [Act.put, List.setIfInBounds_toArray, List.set_cons_zero, List.set_cons_succ])
      refine wpX_val (v := .pointer (some ⟨p6_6, 0 + 2, none⟩)) (by rfl) (fun _ _ => run_ixarr (m := 8) (by decide) (by omega) Tryd.underlying36 (by kernel_rfl) rfl rfl rfl) ?_
      (try simp only [Act.put, List.setIfInBounds_toArray, List.set_cons_zero, List.set_cons_succ])
      refine wpX_cell (v := .int .u64 ((rnds kf (sch (bt l) 80) h i) 2)) (blk_rd k_t6) (by rw [Nat.zero_add]; exact arrK_get _ _ _ _ (by omega)) (by rfl) rfl rfl (by kernel_rfl) ?_
      (try simp only [Act.put, List.setIfInBounds_toArray, List.set_cons_zero, List.set_cons_succ])
      refine wpX_val (v := .int .u64 (an ((rnds kf (sch (bt l) 80) h i) 0) ((rnds kf (sch (bt l) 80) h i) 2))) (by rfl) (fun _ _ => run_and rfl rfl rfl) ?_
      (try simp only [Act.put, List.setIfInBounds_toArray, List.set_cons_zero, List.set_cons_succ])
      refine wpX_val (v := .int .u64 (xo (an ((rnds kf (sch (bt l) 80) h i) 0) ((rnds kf (sch (bt l) 80) h i) 1)) (an ((rnds kf (sch (bt l) 80) h i) 0) ((rnds kf (sch (bt l) 80) h i) 2)))) (by rfl) (fun _ _ => run_xor rfl rfl rfl) ?_
      (try simp only [Act.put, List.setIfInBounds_toArray, List.set_cons_zero, List.set_cons_succ])
      refine wpX_val (v := .pointer (some ⟨p6_6, 0 + 1, none⟩)) (by rfl) (fun _ _ => run_ixarr (m := 8) (by decide) (by omega) Tryd.underlying36 (by kernel_rfl) rfl rfl rfl) ?_
      (try simp only [Act.put, List.setIfInBounds_toArray, List.set_cons_zero, List.set_cons_succ])
      refine wpX_cell (v := .int .u64 ((rnds kf (sch (bt l) 80) h i) 1)) (blk_rd k_t6) (by rw [Nat.zero_add]; exact arrK_get _ _ _ _ (by omega)) (by rfl) rfl rfl (by kernel_rfl) ?_
      (try simp only [Act.put, List.setIfInBounds_toArray, List.set_cons_zero, List.set_cons_succ])
      refine wpX_val (v := .pointer (some ⟨p6_6, 0 + 2, none⟩)) (by rfl) (fun _ _ => run_ixarr (m := 8) (by decide) (by omega) Tryd.underlying36 (by kernel_rfl) rfl rfl rfl) ?_
      (try simp only [Act.put, List.setIfInBounds_toArray, List.set_cons_zero, List.set_cons_succ])
      refine wpX_cell (v := .int .u64 ((rnds kf (sch (bt l) 80) h i) 2)) (blk_rd k_t6) (by rw [Nat.zero_add]; exact arrK_get _ _ _ _ (by omega)) (by rfl) rfl rfl (by kernel_rfl) ?_
      (try simp only [Act.put, List.setIfInBounds_toArray, List.set_cons_zero, List.set_cons_succ])
      refine wpX_val (v := .int .u64 (an ((rnds kf (sch (bt l) 80) h i) 1) ((rnds kf (sch (bt l) 80) h i) 2))) (by rfl) (fun _ _ => run_and rfl rfl rfl) ?_
      (try simp only [Act.put, List.setIfInBounds_toArray, List.set_cons_zero, List.set_cons_succ])
      refine wpX_val (v := .int .u64 (xo (xo (an ((rnds kf (sch (bt l) 80) h i) 0) ((rnds kf (sch (bt l) 80) h i) 1)) (an ((rnds kf (sch (bt l) 80) h i) 0) ((rnds kf (sch (bt l) 80) h i) 2))) (an ((rnds kf (sch (bt l) 80) h i) 1) ((rnds kf (sch (bt l) 80) h i) 2)))) (by rfl) (fun _ _ => run_xor rfl rfl rfl) ?_
      (try simp only [Act.put, List.setIfInBounds_toArray, List.set_cons_zero, List.set_cons_succ])
      refine wpX_val (v := .int .u64 (rU (rnds kf (sch (bt l) 80) h i))) (by rfl) (fun _ _ => by first | rfl | (go_simp; done) | (go_simp; with_reducible rfl)) ?_
      (try simp only [Act.put, List.setIfInBounds_toArray, List.set_cons_zero, List.set_cons_succ])
      (refine wpX_val (v := ?_) (by rfl) (fun W hW => ?_) ?_; rotate_left 1; (focus (go_simp; first | done | with_reducible rfl)); (try simp only [Act.put, List.setIfInBounds_toArray, List.set_cons_zero, List.set_cons_succ]))
      refine wpX_nil ?_
      intro β W10 hE hN hD
      clear hN hD
      simp only [putAll, Act.put, List.setIfInBounds_toArray, List.set_cons_zero, List.set_cons_succ, List.drop_succ_cons, List.drop_zero, List.drop_nil, List.length_nil, Nat.add_zero]
      have hO := off_ext hE
      replace k_t2 := blk_off k_t2 hO nm0
      replace k_t4 := blk_off k_t4 hO nm0
      replace k_t5 := blk_off k_t5 hO nm0
      replace k_t6 := blk_off k_t6 hO nm0
      replace ow_a := Sl.off ow_a hO f0
      replace off0 := off0.step hO i0
      replace sz := off0.size
      clear hO hE β
      refine wpL_nil ?_
      first | refine NoPanic.normal (Q := Exit.then _ _) ?_ | refine NoPanic.normal ?_
      go_upto_region 8 with fail
      refine wp_region_lit ?_
      (refine wpL_val (v := ?_) (by rfl) ?_ ?_; rotate_left 1; (focus (go_simp; first | done | with_reducible rfl)))
      (try simp only [Act.put, List.setIfInBounds_toArray, List.set_cons_zero, List.set_cons_succ])
      (refine wpL_val (v := ?_) (by rfl) ?_ ?_; rotate_left 1; (focus (go_simp; first | done | with_reducible rfl)))
      (try simp only [Act.put, List.setIfInBounds_toArray, List.set_cons_zero, List.set_cons_succ])
      refine wpL_val (v := .int .u64 (ad (rT kf (sch (bt l) 80) i (rnds kf (sch (bt l) 80) h i)) (rU (rnds kf (sch (bt l) 80) h i)))) (by rfl) (run_add rfl rfl rfl) ?_
      (try simp only [Act.put, List.setIfInBounds_toArray, List.set_cons_zero, List.set_cons_succ])
      refine wpL_val (v := .pointer (some ⟨p6_6, 0 + 0, none⟩)) (by rfl) (run_ixarr (m := 8) (by decide) (by omega) Tryd.underlying36 (by kernel_rfl) rfl rfl rfl) ?_
      (try simp only [Act.put, List.setIfInBounds_toArray, List.set_cons_zero, List.set_cons_succ])
      refine wpL_get (v := .int .u64 ((rnds kf (sch (bt l) 80) h i) 0)) (by rfl) rfl rfl k_t6 (by rw [Nat.zero_add]; exact arrK_get _ _ _ _ (by omega)) (by kernel_rfl) ?_
      (try simp only [Act.put, List.setIfInBounds_toArray, List.set_cons_zero, List.set_cons_succ])
      refine wpL_val (v := .pointer (some ⟨p6_6, 0 + 1, none⟩)) (by rfl) (run_ixarr (m := 8) (by decide) (by omega) Tryd.underlying36 (by kernel_rfl) rfl rfl rfl) ?_
      (try simp only [Act.put, List.setIfInBounds_toArray, List.set_cons_zero, List.set_cons_succ])
      refine wpL_get (v := .int .u64 ((rnds kf (sch (bt l) 80) h i) 1)) (by rfl) rfl rfl k_t6 (by rw [Nat.zero_add]; exact arrK_get _ _ _ _ (by omega)) (by kernel_rfl) ?_
      (try simp only [Act.put, List.setIfInBounds_toArray, List.set_cons_zero, List.set_cons_succ])
      refine wpL_val (v := .pointer (some ⟨p6_6, 0 + 2, none⟩)) (by rfl) (run_ixarr (m := 8) (by decide) (by omega) Tryd.underlying36 (by kernel_rfl) rfl rfl rfl) ?_
      (try simp only [Act.put, List.setIfInBounds_toArray, List.set_cons_zero, List.set_cons_succ])
      refine wpL_get (v := .int .u64 ((rnds kf (sch (bt l) 80) h i) 2)) (by rfl) rfl rfl k_t6 (by rw [Nat.zero_add]; exact arrK_get _ _ _ _ (by omega)) (by kernel_rfl) ?_
      (try simp only [Act.put, List.setIfInBounds_toArray, List.set_cons_zero, List.set_cons_succ])
      refine wpL_val (v := .pointer (some ⟨p6_6, 0 + 3, none⟩)) (by rfl) (run_ixarr (m := 8) (by decide) (by omega) Tryd.underlying36 (by kernel_rfl) rfl rfl rfl) ?_
      (try simp only [Act.put, List.setIfInBounds_toArray, List.set_cons_zero, List.set_cons_succ])
      refine wpL_get (v := .int .u64 ((rnds kf (sch (bt l) 80) h i) 3)) (by rfl) rfl rfl k_t6 (by rw [Nat.zero_add]; exact arrK_get _ _ _ _ (by omega)) (by kernel_rfl) ?_
      (try simp only [Act.put, List.setIfInBounds_toArray, List.set_cons_zero, List.set_cons_succ])
      (refine wpL_val (v := ?_) (by rfl) ?_ ?_; rotate_left 1; (focus (go_simp; first | done | with_reducible rfl)))
      (try simp only [Act.put, List.setIfInBounds_toArray, List.set_cons_zero, List.set_cons_succ])
      refine wpL_val (v := .int .u64 (ad ((rnds kf (sch (bt l) 80) h i) 3) (rT kf (sch (bt l) 80) i (rnds kf (sch (bt l) 80) h i)))) (by rfl) (run_add rfl rfl rfl) ?_
      (try simp only [Act.put, List.setIfInBounds_toArray, List.set_cons_zero, List.set_cons_succ])
      refine wpL_val (v := .pointer (some ⟨p6_6, 0 + 4, none⟩)) (by rfl) (run_ixarr (m := 8) (by decide) (by omega) Tryd.underlying36 (by kernel_rfl) rfl rfl rfl) ?_
      (try simp only [Act.put, List.setIfInBounds_toArray, List.set_cons_zero, List.set_cons_succ])
      refine wpL_get (v := .int .u64 ((rnds kf (sch (bt l) 80) h i) 4)) (by rfl) rfl rfl k_t6 (by rw [Nat.zero_add]; exact arrK_get _ _ _ _ (by omega)) (by kernel_rfl) ?_
      (try simp only [Act.put, List.setIfInBounds_toArray, List.set_cons_zero, List.set_cons_succ])
      refine wpL_val (v := .pointer (some ⟨p6_6, 0 + 5, none⟩)) (by rfl) (run_ixarr (m := 8) (by decide) (by omega) Tryd.underlying36 (by kernel_rfl) rfl rfl rfl) ?_
      (try simp only [Act.put, List.setIfInBounds_toArray, List.set_cons_zero, List.set_cons_succ])
      refine wpL_get (v := .int .u64 ((rnds kf (sch (bt l) 80) h i) 5)) (by rfl) rfl rfl k_t6 (by rw [Nat.zero_add]; exact arrK_get _ _ _ _ (by omega)) (by kernel_rfl) ?_
      (try simp only [Act.put, List.setIfInBounds_toArray, List.set_cons_zero, List.set_cons_succ])
      refine wpL_val (v := .pointer (some ⟨p6_6, 0 + 6, none⟩)) (by rfl) (run_ixarr (m := 8) (by decide) (by omega) Tryd.underlying36 (by kernel_rfl) rfl rfl rfl) ?_
      (try simp only [Act.put, List.setIfInBounds_toArray, List.set_cons_zero, List.set_cons_succ])
      refine wpL_get (v := .int .u64 ((rnds kf (sch (bt l) 80) h i) 6)) (by rfl) rfl rfl k_t6 (by rw [Nat.zero_add]; exact arrK_get _ _ _ _ (by omega)) (by kernel_rfl) ?_
      (try simp only [Act.put, List.setIfInBounds_toArray, List.set_cons_zero, List.set_cons_succ])
      refine wpL_val (v := .agg (arrK .u64 8 (rnds kf (sch (bt l) 80) h (i + 1)))) (by rfl) (by first | rfl | (go_simp; rfl)) ?_
      (try simp only [Act.put, List.setIfInBounds_toArray, List.set_cons_zero, List.set_cons_succ])
      refine wpL_putrow (cells := arrK .u64 8 (rnds kf (sch (bt l) 80) h (i + 1))) (by rfl) rfl rfl rfl k_t6 (by rw [arrK_size]; kernel_rfl) (by rw [arrK_size, arrK_size]) (by exact arrK_one _ _ _) ?_
      (try simp only [Act.put, List.setIfInBounds_toArray, List.set_cons_zero, List.set_cons_succ])
      intro W11 hO h_
      replace k_t6 : Blk W11 p6_6 (arrK .u64 8 (rnds kf (sch (bt l) 80) h (i + 1))) 36 := h_
      clear h_
      replace k_t2 := blk_off k_t2 hO (nm1 nq_t2_t6)
      replace k_t4 := blk_off k_t4 hO (nm1 nq_t4_t6)
      replace k_t5 := blk_off k_t5 hO (nm1 nq_t5_t6)
      replace ow_a := Sl.off ow_a hO (f1 ne_a_t6)
      replace off0 := off0.step hO (i1 fb_t6)
      replace sz := off0.size
      clear hO
      refine wpL_nil ?_
      go_wp2
      go_roundw
      case rel => exact ⟨i + 1, by omega, by go_num, off0, k_t2, k_t4, k_t5, k_t6, ow_a⟩
      case measure => simp [intOf]; omega
    · have _f := h80
      obtain rfl : i = 80 := by omega
      go_upto_region 4 with fail
      refine wp_region_lit ?_
      refine wpL_val (v := .bool false) (by rfl) (by first | rfl | (go_simp; done) | (go_simp; with_reducible rfl) | (go_simp; omega)) ?_
      (try simp only [Act.put, List.setIfInBounds_toArray, List.set_cons_zero, List.set_cons_succ])
      refine wpL_nil ?_
      go_wp2_with fail
      go_loopw [102] (fun ii wr => ∃ (i : Nat), (i ≤ 8) ∧ (ii = .int .i64 (i : Int)) ∧ Off [] w wr ∧ Blk wr p2_1 (arrK .u64 8 (mx h (rnds kf (sch (bt l) 80) h 80) i)) 36 ∧ Blk wr p4_2 (arrK .u64 8 (fun _ => 0)) 36 ∧ Blk wr p5_4 (arrK .u64 80 (sch (bt l) 80)) 38 ∧ Blk wr p6_6 (arrK .u64 8 (rnds kf (sch (bt l) 80) h 80)) 36 ∧ Sl wr (.slice (some adr) l.length c) l)
        (fun ii _ => 8 - (intOf ii).toNat)
      case atStart => exact ⟨0, Nat.zero_le _, rfl, off0, (by rw [mx_zero]; exact k_t2), k_t4, k_t5, k_t6, ow_a⟩
      case round =>
        obtain ⟨i, hi, rfl, off0, k_t2, k_t4, k_t5, k_t6, ow_a⟩ := hrel
        obtain ⟨W9, eW_⟩ := wname off0
        subst eW_
        have sz := off0.size
        by_cases h8 : i < 8
        · have _f := h8
          go_upto_region 11 with fail
          refine wp_region_lit ?_
          refine wpL_val (v := .bool true) (by rfl) (by first | rfl | (go_simp; done) | (go_simp; with_reducible rfl) | (go_simp; omega)) ?_
          (try simp only [Act.put, List.setIfInBounds_toArray, List.set_cons_zero, List.set_cons_succ])
          refine wpL_nil ?_
          go_upto_region 13 with fail
          refine wp_region_xn 8 [] (by kernel_rfl) (fun x hx => by cases hx) (by kernel_rfl) ?_
          simp only [List.take_succ_cons, List.take_zero, List.take_nil]
          (try simp only [Act.put, List.setIfInBounds_toArray, List.set_cons_zero, List.set_cons_succ])
          (refine wpX_val (v := ?_) (by rfl) (fun W hW => ?_) ?_; rotate_left 1; (focus (go_simp; first | done | with_reducible rfl)); (try simp only [Act.put, List.setIfInBounds_toArray, List.set_cons_zero, List.set_cons_succ]))
          refine wpX_val (v := .pointer (some ⟨p2_1, 0 + i, none⟩)) (by rfl) (fun _ _ => run_ixarr (m := 8) (by decide) (by omega) Tryd.underlying36 (by kernel_rfl) rfl rfl rfl) ?_
          (try simp only [Act.put, List.setIfInBounds_toArray, List.set_cons_zero, List.set_cons_succ])
          refine wpX_cell (v := .int .u64 ((mx h (rnds kf (sch (bt l) 80) h 80) i) i)) (blk_rd k_t2) (by rw [Nat.zero_add]; exact arrK_get _ _ _ _ (by omega)) (by rfl) rfl rfl (by kernel_rfl) ?_
          (try simp only [Act.put, List.setIfInBounds_toArray, List.set_cons_zero, List.set_cons_succ])
          (refine wpX_val (v := ?_) (by rfl) (fun W hW => ?_) ?_; rotate_left 1; (focus (go_simp; first | done | with_reducible rfl)); (try simp only [Act.put, List.setIfInBounds_toArray, List.set_cons_zero, List.set_cons_succ]))
          refine wpX_val (v := .pointer (some ⟨p6_6, 0 + i, none⟩)) (by rfl) (fun _ _ => run_ixarr (m := 8) (by decide) (by omega) Tryd.underlying36 (by kernel_rfl) rfl rfl rfl) ?_
          (try simp only [Act.put, List.setIfInBounds_toArray, List.set_cons_zero, List.set_cons_succ])
          refine wpX_cell (v := .int .u64 ((rnds kf (sch (bt l) 80) h 80) i)) (blk_rd k_t6) (by rw [Nat.zero_add]; exact arrK_get _ _ _ _ (by omega)) (by rfl) rfl rfl (by kernel_rfl) ?_
          (try simp only [Act.put, List.setIfInBounds_toArray, List.set_cons_zero, List.set_cons_succ])
          refine wpX_val (v := .int .u64 (ad ((mx h (rnds kf (sch (bt l) 80) h 80) i) i) ((rnds kf (sch (bt l) 80) h 80) i))) (by rfl) (fun _ _ => run_add rfl rfl rfl) ?_
          (try simp only [Act.put, List.setIfInBounds_toArray, List.set_cons_zero, List.set_cons_succ])
          refine wpX_val (v := .pointer (some ⟨p2_1, 0 + i, none⟩)) (by rfl) (fun _ _ => run_ixarr (m := 8) (by decide) (by omega) Tryd.underlying36 (by kernel_rfl) rfl rfl rfl) ?_
          (try simp only [Act.put, List.setIfInBounds_toArray, List.set_cons_zero, List.set_cons_succ])
          refine wpX_nil ?_
          intro β W10 hE hN hD
          clear hN hD
          simp only [putAll, Act.put, List.setIfInBounds_toArray, List.set_cons_zero, List.set_cons_succ, List.drop_succ_cons, List.drop_zero, List.drop_nil, List.length_nil, Nat.add_zero]
          have hO := off_ext hE
          replace k_t2 := blk_off k_t2 hO nm0
          replace k_t4 := blk_off k_t4 hO nm0
          replace k_t5 := blk_off k_t5 hO nm0
          replace k_t6 := blk_off k_t6 hO nm0
          replace ow_a := Sl.off ow_a hO f0
          replace off0 := off0.step hO i0
          replace sz := off0.size
          clear hO hE β
          refine wpL_put1 (v := .int .u64 (ad ((mx h (rnds kf (sch (bt l) 80) h 80) i) i) ((rnds kf (sch (bt l) 80) h 80) i))) ⟨rfl, rfl⟩ (by rfl) rfl rfl rfl k_t2 (by rw [arrK_size, Nat.zero_add]; omega) (by kernel_rfl) ?_
          (try simp only [Act.put, List.setIfInBounds_toArray, List.set_cons_zero, List.set_cons_succ])
          intro W11 hO h_
          rw [Nat.zero_add, arrK_set] at h_
          replace k_t2 : Blk W11 p2_1 (arrK .u64 8 (upd (mx h (rnds kf (sch (bt l) 80) h 80) i) i (ad ((mx h (rnds kf (sch (bt l) 80) h 80) i) i) ((rnds kf (sch (bt l) 80) h 80) i)))) 36 := h_
          clear h_
          replace k_t4 := blk_off k_t4 hO (nm1 nq_t2_t4.symm)
          replace k_t5 := blk_off k_t5 hO (nm1 nq_t2_t5.symm)
          replace k_t6 := blk_off k_t6 hO (nm1 nq_t2_t6.symm)
          replace ow_a := Sl.off ow_a hO (f1 ne_a_t2)
          replace off0 := off0.step hO (i1 fb_t2)
          replace sz := off0.size
          clear hO
          refine wpL_nil ?_
          first | refine NoPanic.normal (Q := Exit.then _ _) ?_ | refine NoPanic.normal ?_
          go_wp2
          go_roundw
          case rel => exact ⟨i + 1, by omega, by go_num, off0, (by rw [← mx_step]; exact k_t2), k_t4, k_t5, k_t6, ow_a⟩
          case measure => simp [intOf]; omega
        · have _f := h8
          obtain rfl : i = 8 := by omega
          rw [mx_end] at k_t2
          go_upto_region 11 with fail
          refine wp_region_lit ?_
          refine wpL_val (v := .bool false) (by rfl) (by first | rfl | (go_simp; done) | (go_simp; with_reducible rfl) | (go_simp; omega)) ?_
          (try simp only [Act.put, List.setIfInBounds_toArray, List.set_cons_zero, List.set_cons_succ])
          refine wpL_nil ?_
          go_upto_region 15 with fail
          refine wp_region_lit ?_
          refine wpL_load0 (by rfl) rfl rfl k_t2 (by kernel_rfl) (by rw [arrK_size]; kernel_rfl) ?_
          (try simp only [Act.put, List.setIfInBounds_toArray, List.set_cons_zero, List.set_cons_succ])
          refine wpL_putrow (cells := arrK .u64 8 (prs h (bt l))) (by rfl) rfl rfl rfl k_t4 (by rw [arrK_size]; kernel_rfl) (by rw [arrK_size, arrK_size]) (by exact arrK_one _ _ _) ?_
          (try simp only [Act.put, List.setIfInBounds_toArray, List.set_cons_zero, List.set_cons_succ])
          intro W10 hO h_
          replace k_t4 : Blk W10 p4_2 (arrK .u64 8 (prs h (bt l))) 36 := h_
          clear h_
          replace k_t2 := blk_off k_t2 hO (nm1 nq_t2_t4)
          replace k_t5 := blk_off k_t5 hO (nm1 nq_t4_t5.symm)
          replace k_t6 := blk_off k_t6 hO (nm1 nq_t4_t6.symm)
          replace ow_a := Sl.off ow_a hO (f1 ne_a_t4)
          replace off0 := off0.step hO (i1 fb_t4)
          replace sz := off0.size
          clear hO
          refine wpL_nil ?_
          go_wp2
          refine bodyPost_ret (res_row rfl rfl k_t4 (by kernel_rfl) (by rw [arrK_size]; kernel_rfl)) rfl ⟨rfl, off0.ext⟩
end Go.Proofs.YtfkhogeaadldnaaDoor
