/- custumallaw06.ScalarCanon is true of all bytes and numbers. -/
import Derived.Test.YtgmdpiaenfogcaaDoorReg
import Derived.Test.YtgmdpiaenfogcaaDoorRfI
import Derived.Test.YtgmdpiaenfogcaaDoorLwC
import Derived.Test.YtgmdpiaenfogcaaDoorScI
import Derived.Deep.DeepCutAuto
namespace Go.Proofs.YtgmdpiaenfogcaaDoor
open Go.RowKit

/-- What lies where behind the first five statements. -/
def Kc (w0 : World) (B b5 b7 b9 b11 N R M A : Nat) (bs cl : Nat → Int) (w : World) : Prop :=
  GL w ∧ Below B w0 w ∧ Blk w B (arrK .u8 32 bs) 33 ∧ Blk w (B + 1) (c4 A) 27 ∧ Blk w b5 (c4 N) 27 ∧ Blk w b7 (q16 R).toArray 30 ∧ Blk w b9 (c4 M) 27 ∧ Blk w b11 (arrK .u8 32 cl) 33

theorem Kc_step {w0 : World} {B b5 b7 b9 b11 N R M A : Nat} {bs cl : Nat → Int} {w w' : World} (h : Kc w0 B b5 b7 b9 b11 N R M A bs cl w) (hb : Below w.heap.size w w') : Kc w0 B b5 b7 b9 b11 N R M A bs cl w' := by
  obtain ⟨h0, h1, h2, h3, h4, h5, h6, h7⟩ := h
  exact ⟨GL_step h0 hb, below_step h1 hb (Nat.le_of_lt (blk_lt h2)), blk_step h2 hb, blk_step h3 hb, blk_step h4 hb, blk_step h5 hb, blk_step h6 hb, blk_step h7 hb⟩
theorem Kc_drew {w0 : World} {B b5 b7 b9 b11 N R M A : Nat} {bs cl : Nat → Int} {w : World} (h : Kc w0 B b5 b7 b9 b11 N R M A bs cl w) : Kc w0 B b5 b7 b9 b11 N R M A bs cl w.drew := by
  obtain ⟨h0, h1, h2, h3, h4, h5, h6, h7⟩ := h
  exact ⟨h0, h1.drew, h2, h3, h4, h5, h6, h7⟩
def Kd (w0 : World) (B b5 b7 N R A : Nat) (bs : Nat → Int) (w : World) : Prop :=
  GL w ∧ Below B w0 w ∧ Blk w B (arrK .u8 32 bs) 33 ∧ Blk w (B + 1) (c4 A) 27 ∧ Blk w b5 (c4 N) 27 ∧ Blk w b7 (q16 R).toArray 30
theorem Kd_step {w0 : World} {B b5 b7 N R A : Nat} {bs : Nat → Int} {w w' : World} (h : Kd w0 B b5 b7 N R A bs w) (hb : Below w.heap.size w w') : Kd w0 B b5 b7 N R A bs w' := by
  obtain ⟨h0, h1, h2, h3, h4, h5⟩ := h
  exact ⟨GL_step h0 hb, below_step h1 hb (Nat.le_of_lt (blk_lt h2)), blk_step h2 hb, blk_step h3 hb, blk_step h4 hb, blk_step h5 hb⟩
theorem Kd_drew {w0 : World} {B b5 b7 N R A : Nat} {bs : Nat → Int} {w : World} (h : Kd w0 B b5 b7 N R A bs w) : Kd w0 B b5 b7 N R A bs w.drew := by
  obtain ⟨h0, h1, h2, h3, h4, h5⟩ := h
  exact ⟨h0, h1.drew, h2, h3, h4, h5⟩
theorem arr_string (W : World) (b : Nat) (f : Nat → Int) (h : Blk W b (arrK .u8 32 f) 33) : (convert 22 9 (.slice (some ⟨b, 0, none⟩) 32 32)).run Tryd.prog W = .ok (.string (strOfNums ((List.range 32).map f))) W :=
  run_convert_bytes_arg W 22 5 Tryd.underlying22 Tryd.underlying5 b 0 32 32 ((List.range 32).map f) (by simp) (fun i hi => by rw [Nat.zero_add, blk_cell h, arrK_get _ _ _ _ hi]; simp [List.getD, hi]) 9 Tryd.underlying9

abbrev Sc (w0 : World) (B b5 b7 b9 b11 N R M A : Nat) (bs cl : Nat → Int) (S1 S3 : ByteArray) (W : World) : Prop :=
  Kc w0 B b5 b7 b9 b11 N R M A bs cl W ∧ (∀ j, W.cell? ⟨b5, j, none⟩ = (c4 N)[j]?) ∧ W.rangeAt b7 0 (q16 R) ∧ (∀ j, W.cell? ⟨b9, j, none⟩ = (c4 M)[j]?) ∧ (∀ j, W.cell? ⟨B + 1, j, none⟩ = (c4 A)[j]?) ∧ (convert 22 9 (.slice (some ⟨B, 0, none⟩) 32 32)).run Tryd.prog W = .ok (.string S1) W ∧ (convert 22 9 (.slice (some ⟨b11, 0, none⟩) 32 32)).run Tryd.prog W = .ok (.string S3) W
theorem Kc_of {w0 : World} {B b5 b7 b9 b11 N R M A : Nat} {bs cl : Nat → Int} {S1 S3 : ByteArray} {w : World} (h : Sc w0 B b5 b7 b9 b11 N R M A bs cl S1 S3 w) : Kc w0 B b5 b7 b9 b11 N R M A bs cl w := h.1
theorem Sc_of {w0 : World} {B b5 b7 b9 b11 N R M A : Nat} {bs cl : Nat → Int} {S1 S3 : ByteArray} {w : World} (h1 : S1 = strOfNums ((List.range 32).map bs)) (h3 : S3 = strOfNums ((List.range 32).map cl)) (h : Kc w0 B b5 b7 b9 b11 N R M A bs cl w) : Sc w0 B b5 b7 b9 b11 N R M A bs cl S1 S3 w := by
  obtain ⟨k0, k1, k2, k3, k4, k5, k6, k7⟩ := h
  exact ⟨⟨k0, k1, k2, k3, k4, k5, k6, k7⟩, blk_cell k4, blk_range k5, blk_cell k6, blk_cell k3, by rw [h1]; exact arr_string _ _ _ k2, by rw [h3]; exact arr_string _ _ _ k7⟩
theorem Kc_below {w0 : World} {B b5 b7 b9 b11 N R M A : Nat} {bs cl : Nat → Int} {w : World} (h : Kc w0 B b5 b7 b9 b11 N R M A bs cl w) : Below B w0 w := h.2.1

set_option maxHeartbeats 4000000 in
theorem scanon_c (bs : Nat → Int) (hbs : ∀ j, u8ok (bs j)) (A : Nat) (hA : A < P256) (w : World) (hG : GL w) :
    Calls Tryd.prog 4 #[.agg (arrK .u8 32 bs), L4 A] w fun e w' => Ret (.bool true) w w' e := by
  have hV : bval bs 32 < P256 := bval_lt bs hbs 32
  obtain ⟨V, hVe⟩ : ∃ V, V = bval bs 32 := ⟨_, rfl⟩
  rw [← hVe] at hV
  obtain ⟨is, his⟩ : ∃ b, b = decide (V < LL) := ⟨_, rfl⟩
  obtain ⟨N, hN⟩ : ∃ N, N = if V < LL then V else 0 := ⟨_, rfl⟩
  have hcan1 := fun (W : World) (hW : GL W) => canon_c bs hbs W hW
  have hcv : canonV (bval bs 32) = .tuple #[L4 N, .bool is] := by
    rw [← hVe]; unfold canonV
    by_cases h : V < LL
    · rw [if_pos h, hN, if_pos h, his, decide_eq_true h]
    · rw [if_neg h, hN, if_neg h, his, decide_eq_false h]
  rw [hcv] at hcan1
  -- the document's number
  have hro := rof_c 32 V hV (by omega)
  have hst : strN 32 (byt V) = strN 32 bs := strN_congr _ _ _ (fun i hi => by rw [hVe]; exact byt_bval bs hbs 32 i hi)
  rw [hst] at hro
  obtain ⟨R, hR⟩ : ∃ R, R = V % LL := ⟨_, rfl⟩
  rw [← hR] at hro
  have hrb := rbytes_c R
  have hkey : ((strOfNums ((List.range 32).map (byt R))).toList == (strOfNums ((List.range 32).map bs)).toList) = is := by
    rw [his]
    by_cases h : V < LL
    · have : R = V := by rw [hR]; exact Nat.mod_eq_of_lt h
      have h2 := hst
      unfold strN at h2
      injection h2 with h3
      rw [decide_eq_true h, this, h3, beq_self_eq_true]
    · rw [decide_eq_false h, beq_eq_false_iff_ne]
      have hne := text_ne bs hbs R (by rw [hR]; exact lt_256 V) (by
        rw [← hVe, hR]
        have : V % LL < LL := Nat.mod_lt _ (by decide)
        omega)
      intro he
      apply hne
      rw [ByteArray.toList_eq, ByteArray.toList_eq] at he
      exact Go.WideShapes.bytes_inj he
  have hcl := clamp_c bs hbs
  have hrcl := rclamp_c bs hbs
  have harr := fun (W : World) (b : Nat) (h : Blk W b (arrK .u8 32 bs) 33) => arr_string W b bs h
  have harr2 := fun (W : World) (b : Nat) (h : Blk W b (arrK .u8 32 (clampF bs)) 33) => arr_string W b (clampF bs) h
  -- the number's own bytes
  obtain ⟨M, hM⟩ : ∃ M, M = A % LL := ⟨_, rfl⟩
  have hby := bytes_c A hA
  have hcan2 := fun (W : World) (hW : GL W) => canon_c (byt (A % LL)) (fun j => byt_ok _ j) W hW
  have hcv2 : canonV (bval (byt (A % LL)) 32) = .tuple #[L4 M, .bool true] := by
    have hl : A % LL < LL := Nat.mod_lt _ (by decide)
    rw [bval_byt, Nat.mod_eq_of_lt (show A % LL < 2 ^ (8 * 32) from lt_256 A), ← hM] at *
    unfold canonV
    rw [if_pos (by rw [hM]; exact hl)]
  rw [hcv2] at hcan2
  rw [← hM] at hby hcan2
  have hlo := law_of_c A hA
  rw [← hM] at hlo
  have hs1 := same_c M
  have hs2 := same_c R
  have hNR : is = true → N = R := by
    intro h; rw [his, decide_eq_true_iff] at h; rw [hN, if_pos h, hR, Nat.mod_eq_of_lt h]
  have hN0 : is = false → N = 0 := by
    intro h; rw [his, decide_eq_false_iff_not] at h; rw [hN, if_neg h]
  have e0 := fun W => eq4z 0 (by decide) W
  rw [decide_eq_true rfl] at e0
  have e00 := e0
  rw [show lim 0 0 = 0 by decide +kernel, show lim 0 1 = 0 by decide +kernel, show lim 0 2 = 0 by decide +kernel, show lim 0 3 = 0 by decide +kernel] at e0
  unfold strN at hro hrb hrcl
  obtain ⟨S1, hS1⟩ : ∃ S, S = strOfNums ((List.range 32).map bs) := ⟨_, rfl⟩
  obtain ⟨S2, hS2⟩ : ∃ S, S = strOfNums ((List.range 32).map (byt R)) := ⟨_, rfl⟩
  obtain ⟨S3, hS3⟩ : ∃ S, S = strOfNums ((List.range 32).map (clampF bs)) := ⟨_, rfl⟩
  rw [← hS1] at hro hrcl harr hkey
  rw [← hS2] at hrb hkey
  rw [← hS3] at hrcl harr2
  unfold L4 at hcan1 hcan2 hby hlo hs1 hs2
  unfold A16 at hro
  rw [A16_q16] at hrb hs1 hs2
  rw [A16_q16] at hlo
  have HG := Lib.hid hG
  have C1 := Lib.hid hcan1
  have C2 := Lib.hid hcan2
  have RO := Lib.hid hro
  have RB := Lib.hid hrb
  have CL := Lib.hid hcl
  have RC := Lib.hid hrcl
  have AR := Lib.hid harr
  have AR2 := Lib.hid harr2
  have BY := Lib.hid hby
  have LO := Lib.hid hlo
  have SM1 := Lib.hid hs1
  have SM2 := Lib.hid hs2
  have NR := Lib.hid hNR
  have N0 := Lib.hid hN0
  have E0 := Lib.hid e0
  have E00 := Lib.hid e00
  have KEY := Lib.hid hkey
  have HS1 := Lib.hid hS1
  have HS3 := Lib.hid hS3
  clear hG hcan1 hcan2 hro hrb hcl hrcl harr harr2 hby hlo hs1 hs2 hNR hN0 e0 e00 hkey hS1 hS2 hS3 hM hcv hcv2 hst hR hN his hVe hV hA hbs
  go_enter Tryd.func4, Tryd.ntmps4
  go_upto_region 1 with fail
  refine wp_world (fun W => GL W ∧ Below w.heap.size w W ∧ Blk W w.heap.size (arrK .u8 32 bs) 33 ∧ Blk W (w.heap.size + 1) (c4 A) 27) ⟨GL_alloc (GL_alloc HG.out _) _, (by (repeat' (first | (with_reducible assumption) | (with_reducible exact Below.refl _ _) | (with_reducible refine Below.drew ?_) | (with_reducible refine Below.alloc ?_ ?_ _) | (with_reducible refine below_set ?_ ?_ _ _) | (with_reducible refine below_setRow ?_ ?_ _) | (with_reducible refine below_step ?_ (by assumption) ?_))) <;> (first | omega | ((try simp only [World.size_alloc, World.size_setCell, World.size_drew, size_setRow]); omega))), blk_alloc (blk_new _ _ rfl) _, blk_new _ _ (by simp)⟩ ?_
  rintro W0 ⟨g0, bel0, b1, b2⟩
  go_upto_region 2 with (first
    | (refine wpList_load_row rfl 33 (.tmp 2) rfl w.heap.size rfl _ _ _ _ b1 Tryd.underlying33 rfl (by kernel_rfl) ?_)
    | (go_at_call 11; (with_reducible refine (C1.out _ g0).mono ?_); rintro e w1 ⟨rfl, hb1⟩))
  refine wp_world (fun W => GL W ∧ Below w.heap.size w W ∧ Blk W w.heap.size (arrK .u8 32 bs) 33 ∧ Blk W (w.heap.size + 1) (c4 A) 27 ∧ Blk W w1.heap.size (c4 N) 27) ⟨GL_alloc (GL_step g0 hb1) _, (below_step bel0 hb1 bel0.size).alloc (below_step bel0 hb1 bel0.size).size _, blk_alloc (blk_step b1 hb1) _, blk_alloc (blk_step b2 hb1) _, blk_new _ _ rfl⟩ ?_
  clear bel0 b1 b2
  rintro W1 ⟨g1, bel1, b1, b2, b5⟩
  have ca := AR.out _ _ b1
  go_upto_region 3 with (first
    | (go_at_call 10; (with_reducible refine (RO.out _).mono ?_); rintro e w2 ⟨rfl, hb2⟩)
    | (refine wpList_store_row rfl 30 (.tmp 7) (.tmp 19) rfl w2.heap.size _ rfl rfl 30 _ (blk_new _ _ rfl) (by kernel_rfl) (by kernel_rfl) (arrK_one _ _ _) ?_))
  have sb2 := blk_lt (blk_step b5 hb2)
  have sb1 := blk_lt (blk_step b1 hb2)
  refine wp_world (Kd w w.heap.size w1.heap.size w2.heap.size N R A bs) ⟨GL_below (GL_step g1 hb2) (below_setRow ((Below.refl w2.heap.size w2).alloc (Nat.le_refl _) _) (Nat.le_refl _) _) (GL_step g1 hb2).2.2.2.2, below_setRow ((below_step bel1 hb2 bel1.size).alloc (below_step bel1 hb2 bel1.size).size _) (by omega) _, blk_setRow_other (blk_alloc (blk_step b1 hb2) _) (by omega) _, blk_setRow_other (blk_alloc (blk_step b2 hb2) _) (by have := blk_lt (blk_step b2 hb2); omega) _, blk_setRow_other (blk_alloc (blk_step b5 hb2) _) (by omega) _, blk_setRow (blk_new _ _ rfl) _⟩ ?_
  clear g0 bel1 b1 b2 b5 g1 ca
  intro W2 hk
  have hu := Tryd.underlying30
  have hq := q16_info R
  have ca := AR.out _ _ hk.2.2.1
  have hrr := blk_range hk.2.2.2.2.2
  have hky := KEY.out
  simp only [Act.put]
  go_region_held3 (fun W => Kd w w.heap.size w1.heap.size w2.heap.size N R A bs W ∧ W.rangeAt w2.heap.size 0 (q16 R) ∧ (convert 22 9 (.slice (some ⟨w.heap.size, 0, none⟩) 32 32)).run Tryd.prog W = .ok (.string S1) W)
    (first
      | exact ⟨hk, blk_range hk.2.2.2.2.2, AR.out _ _ hk.2.2.1⟩
      | exact ⟨Kd_drew hk, blk_range hk.2.2.2.2.2, AR.out _ _ (blk_drew hk.2.2.1)⟩
      | exact ⟨Kd_step hk hb3, blk_range (Kd_step hk hb3).2.2.2.2.2, AR.out _ _ (Kd_step hk hb3).2.2.1⟩
      | exact ⟨Kd_step (Kd_drew hk) hb3, blk_range (Kd_step (Kd_drew hk) hb3).2.2.2.2.2, AR.out _ _ (Kd_step (Kd_drew hk) hb3).2.2.1⟩)
    (first
      | (go_at_call 12; (with_reducible refine (RB.out _).mono ?_); rintro e w3 ⟨rfl, hb3⟩))
  refine ex_world (Kd w w.heap.size w1.heap.size w2.heap.size N R A bs) (by first | exact Kd_step (Kd_drew hk) hb3 | exact Kd_step hk hb3) ?_
  clear hk ca hrr hky
  intro W3 hk
  have b1 := hk.2.2.1
  have b2 := hk.2.2.2.1
  have c2 := blk_cell b2
  have g3 := hk.1
  go_upto_region 5 with (first
    | (go_at_call 13; (with_reducible refine (BY.out _ g3).mono ?_); rintro e w4 ⟨rfl, hb4⟩; have g4 := GL_step g3 hb4; have hk4 := Kd_step hk hb4)
    | (go_at_call 11; (with_reducible refine (C2.out _ g4).mono ?_); rintro e w5 ⟨rfl, hb5⟩; have hk5 := Kd_step hk4 hb5))
  refine wp_world (fun W => Kd w w.heap.size w1.heap.size w2.heap.size N R A bs W ∧ Blk W w5.heap.size (c4 M) 27) ⟨Kd_step hk5 ((Below.refl _ _).alloc (Nat.le_refl _) _), blk_new _ _ rfl⟩ ?_
  clear hk5 hk4 hk g4 g3 c2 b1 b2
  rintro W5 ⟨hk, b9⟩
  have b1 := hk.2.2.1
  go_upto_region 6 with (first
    | (refine wpList_load_row rfl 33 (.tmp 2) rfl w.heap.size rfl _ _ _ _ b1 Tryd.underlying33 rfl (by kernel_rfl) ?_)
    | (go_at_call 14; (with_reducible refine (CL.out _).mono ?_); rintro e w6 ⟨rfl, hb6⟩)
    | (refine wpList_store_row rfl 33 (.tmp 11) (.tmp 32) rfl w6.heap.size _ rfl rfl 33 _ (blk_new _ _ rfl) (by kernel_rfl) (by kernel_rfl) (arrK_one _ _ _) ?_))
  have hk6 := Kd_step hk hb6
  have b96 := blk_step b9 hb6
  have hKc : Kc w w.heap.size w1.heap.size w2.heap.size w5.heap.size w6.heap.size N R M A bs (clampF bs) ((w6.alloc (.cells (arrK .u8 32 (fun _ => 0)) 33)).setRow w6.heap.size (arrK .u8 32 (clampF bs))) := by
    have hbb : Below w6.heap.size w6 ((w6.alloc (.cells (arrK .u8 32 (fun _ => 0)) 33)).setRow w6.heap.size (arrK .u8 32 (clampF bs))) := below_setRow ((Below.refl _ _).alloc (Nat.le_refl _) _) (Nat.le_refl _) _
    obtain ⟨k0, k1, k2, k3, k4, k5⟩ := Kd_step hk6 hbb
    exact ⟨k0, k1, k2, k3, k4, k5, blk_step b96 hbb, blk_setRow (blk_new _ _ rfl) _⟩
  refine wp_world (Kc w w.heap.size w1.heap.size w2.heap.size w5.heap.size w6.heap.size N R M A bs (clampF bs)) hKc ?_
  clear hKc hk6 b96 hk b9 b1
  intro W6 hk
  have e0 := E0.out
  have e00 := E00.out
  simp only [Act.put]
  obtain ⟨g6, _, b1, b2, b5, b7, b9, b11⟩ := id hk
  have LO' := LO.out
  have RC' := RC.out
  have HV1 := fun (W : World) (hW : Ext W6 W) => AR.out W _ (blk_step b1 hW)
  have HV3 := fun (W : World) (hW : Ext W6 W) => AR2.out W _ (blk_step b11 hW)
  cases is
  · obtain rfl := N0.out rfl
    refine wp_region_xs (by kernel_rfl) (by kernel_rfl) ?_
    repeat (first
      | (refine wpX_skip (by rfl) ?_; (try simp only [Act.put, List.setIfInBounds_toArray, List.set_cons_zero, List.set_cons_succ]))
      | ((with_reducible refine wpX_load (b := ?_) (cs := ?_) (t := ?_) ?_ rfl ?_ ?_ ?_ ?_ ?_); rotate_left 3; (focus rfl); (focus rfl); (focus assumption); (focus kernel_rfl); (focus kernel_rfl); (try simp only [Act.put, List.setIfInBounds_toArray, List.set_cons_zero, List.set_cons_succ]))
      | ((with_reducible refine wpX_fn (fun W hW => orders_c W (GL_step g6 hW)) ?_ rfl ?_ ?_ ?_); (focus rfl); (focus kernel_rfl); (focus rfl); (try simp only [Act.put, List.setIfInBounds_toArray, List.set_cons_zero, List.set_cons_succ]))
      | ((with_reducible refine wpX_fn0 (same_c ?_) ?_ rfl ?_ ?_ ?_); rotate_left 1; (focus rfl); (focus kernel_rfl); (focus rfl); (try simp only [Act.put, List.setIfInBounds_toArray, List.set_cons_zero, List.set_cons_succ]))
      | ((with_reducible refine wpX_fn (fun W hW => LO' W) ?_ rfl ?_ ?_ ?_); (focus rfl); (focus kernel_rfl); (focus rfl); (try simp only [Act.put, List.setIfInBounds_toArray, List.set_cons_zero, List.set_cons_succ]))
      | ((with_reducible refine wpX_fn (fun W hW => RC' W) ?_ rfl ?_ ?_ ?_); (focus rfl); (focus kernel_rfl); (focus rfl); (try simp only [Act.put, List.setIfInBounds_toArray, List.set_cons_zero, List.set_cons_succ]))
      | ((with_reducible refine wpX_conv HV1 ?_ rfl ?_ ?_); (focus rfl); (focus rfl); (try simp only [Act.put, List.setIfInBounds_toArray, List.set_cons_zero, List.set_cons_succ]))
      | ((with_reducible refine wpX_conv HV3 ?_ rfl ?_ ?_); (focus rfl); (focus rfl); (try simp only [Act.put, List.setIfInBounds_toArray, List.set_cons_zero, List.set_cons_succ]))
      | (refine wpX_val (v := ?_) (by rfl) (fun W hW => ?_) ?_; rotate_left 1; (focus (go_simp; first | done | with_reducible rfl)); (try simp only [Act.put, List.setIfInBounds_toArray, List.set_cons_zero, List.set_cons_succ])))
    refine wpX_nil ?_
    intro W7 hE
    go_wp2
    exact bodyPost_ret (v := .bool true) (by simp only [results, Tryd.results4]; go_simp) rfl ⟨rfl, below_step (Kc_below hk) hE (Kc_below hk).size⟩
  · obtain rfl := NR.out rfl
    refine wp_region_xs (by kernel_rfl) (by kernel_rfl) ?_
    repeat (first
      | (refine wpX_skip (by rfl) ?_; (try simp only [Act.put, List.setIfInBounds_toArray, List.set_cons_zero, List.set_cons_succ]))
      | ((with_reducible refine wpX_load (b := ?_) (cs := ?_) (t := ?_) ?_ rfl ?_ ?_ ?_ ?_ ?_); rotate_left 3; (focus rfl); (focus rfl); (focus assumption); (focus kernel_rfl); (focus kernel_rfl); (try simp only [Act.put, List.setIfInBounds_toArray, List.set_cons_zero, List.set_cons_succ]))
      | ((with_reducible refine wpX_fn (fun W hW => orders_c W (GL_step g6 hW)) ?_ rfl ?_ ?_ ?_); (focus rfl); (focus kernel_rfl); (focus rfl); (try simp only [Act.put, List.setIfInBounds_toArray, List.set_cons_zero, List.set_cons_succ]))
      | ((with_reducible refine wpX_fn0 (same_c ?_) ?_ rfl ?_ ?_ ?_); rotate_left 1; (focus rfl); (focus kernel_rfl); (focus rfl); (try simp only [Act.put, List.setIfInBounds_toArray, List.set_cons_zero, List.set_cons_succ]))
      | ((with_reducible refine wpX_fn (fun W hW => LO' W) ?_ rfl ?_ ?_ ?_); (focus rfl); (focus kernel_rfl); (focus rfl); (try simp only [Act.put, List.setIfInBounds_toArray, List.set_cons_zero, List.set_cons_succ]))
      | ((with_reducible refine wpX_fn (fun W hW => RC' W) ?_ rfl ?_ ?_ ?_); (focus rfl); (focus kernel_rfl); (focus rfl); (try simp only [Act.put, List.setIfInBounds_toArray, List.set_cons_zero, List.set_cons_succ]))
      | ((with_reducible refine wpX_conv HV1 ?_ rfl ?_ ?_); (focus rfl); (focus rfl); (try simp only [Act.put, List.setIfInBounds_toArray, List.set_cons_zero, List.set_cons_succ]))
      | ((with_reducible refine wpX_conv HV3 ?_ rfl ?_ ?_); (focus rfl); (focus rfl); (try simp only [Act.put, List.setIfInBounds_toArray, List.set_cons_zero, List.set_cons_succ]))
      | (refine wpX_val (v := ?_) (by rfl) (fun W hW => ?_) ?_; rotate_left 1; (focus (go_simp; first | done | with_reducible rfl)); (try simp only [Act.put, List.setIfInBounds_toArray, List.set_cons_zero, List.set_cons_succ])))
    refine wpX_nil ?_
    intro W7 hE
    go_wp2
    exact bodyPost_ret (v := .bool true) (by simp only [results, Tryd.results4]; go_simp) rfl ⟨rfl, below_step (Kc_below hk) hE (Kc_below hk).size⟩
end Go.Proofs.YtgmdpiaenfogcaaDoor
