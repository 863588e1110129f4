/- custumallaw06.ScalarSums is true of all numbers. -/
import Derived.Test.YtgmdpiaenfogcaaDoorReg
import Derived.Test.YtgmdpiaenfogcaaDoorLwC
import Derived.Test.YtgmdpiaenfogcaaDoorRfG
import Derived.Test.YtgmdpiaenfogcaaDoorRfH
import Derived.Deep.DeepCutAuto
namespace Go.Proofs.YtgmdpiaenfogcaaDoor
open Go.RowKit

theorem arr_str (W : World) (b : Nat) (f : Nat → Int) (h : Blk W b (arrK .u8 32 f) 33) : (convert 22 9 (.slice (some ⟨b, 0, none⟩) 32 32)).run Tryd.prog W = .ok (strN 32 f) W :=
  run_convert_bytes_arg W 22 5 Tryd.underlying22 Tryd.underlying5 b 0 32 32 ((List.range 32).map f) (by simp) (fun i hi => by rw [Nat.zero_add, blk_cell h, arrK_get _ _ _ _ hi]; simp [List.getD, hi]) 9 Tryd.underlying9

set_option maxHeartbeats 4000000 in
theorem ssums_c (A B : Nat) (hA : A < P256) (hB : B < P256) (w : World) (hG : GL w) :
    Calls Tryd.prog 6 #[L4 A, L4 B] w fun e w' => Ret (.bool true) w w' e := by
  have HG := Lib.hid hG
  have o1 := law_of_c A hA
  have o2 := law_of_c B hB
  have HO1 := Lib.hid o1
  have HO2 := Lib.hid o2
  clear o1 o2 hG
  go_enter Tryd.func6, Tryd.ntmps6
  go_wp2_with fail
  refine wp_world (fun W => GL W ∧ Below w.heap.size w W ∧ Blk W w.heap.size (c4 A) 27 ∧ Blk W (w.heap.size + 1) (c4 B) 27) ⟨GL_alloc (GL_alloc HG.out _) _, (by (repeat' (first | (with_reducible assumption) | (with_reducible exact Below.refl _ _) | (with_reducible refine Below.drew ?_) | (with_reducible refine Below.alloc ?_ ?_ _) | (with_reducible refine below_set ?_ ?_ _ _) | (with_reducible refine below_setRow ?_ ?_ _) | (with_reducible refine below_step ?_ (by assumption) ?_))) <;> (first | omega | ((try simp only [World.size_alloc, World.size_setCell, World.size_drew, size_setRow]); omega))), blk_alloc (blk_new _ _ rfl) _, blk_new _ _ (by simp)⟩ ?_
  rintro W0 ⟨g0, bel0, b1, b2⟩
  refine wp_region_xn 4 [⟨4, 5, arrK .i64 16 (fun _ => 0), 30⟩, ⟨5, 6, arrK .i64 16 (fun _ => 0), 30⟩] (by kernel_rfl) ?ok (by kernel_rfl) ?_
  case ok =>
    intro x hx
    simp only [List.mem_cons, List.not_mem_nil, or_false] at hx
    rcases hx with rfl | rfl <;> exact ⟨_, rfl, rfl, rfl, fun _ _ => by kernel_rfl⟩
  simp only [List.take_succ_cons, List.take_zero]
  ((with_reducible refine wpX_load (b := ?_) (cs := ?_) (t := ?_) ?_ rfl ?_ ?_ ?_ ?_ ?_); rotate_left 3; (focus rfl); (focus rfl); (focus assumption); (focus kernel_rfl); (focus kernel_rfl); (try simp only [Act.put, List.setIfInBounds_toArray, List.set_cons_zero, List.set_cons_succ]))
  (refine wpX_call (by rfl) (fun _ => ?_) (fun W hW => HO1.out W) ?_; (focus (go_simp; first | done | with_reducible rfl)); (try simp only [Act.put, List.setIfInBounds_toArray, List.set_cons_zero, List.set_cons_succ]))
  ((with_reducible refine wpX_load (b := ?_) (cs := ?_) (t := ?_) ?_ rfl ?_ ?_ ?_ ?_ ?_); rotate_left 3; (focus rfl); (focus rfl); (focus assumption); (focus kernel_rfl); (focus kernel_rfl); (try simp only [Act.put, List.setIfInBounds_toArray, List.set_cons_zero, List.set_cons_succ]))
  (refine wpX_call (by rfl) (fun _ => ?_) (fun W hW => HO2.out W) ?_; (focus (go_simp; first | done | with_reducible rfl)); (try simp only [Act.put, List.setIfInBounds_toArray, List.set_cons_zero, List.set_cons_succ]))
  refine wpX_nil ?_
  intro β W1 hE hN hD
  obtain ⟨n4, k4⟩ := hN _ (List.mem_cons_self ..)
  obtain ⟨n5, k5⟩ := hN _ (List.mem_cons_of_mem _ (List.mem_cons_self ..))
  have hd := hD _ (List.mem_cons_self ..) _ (List.mem_cons_of_mem _ (List.mem_cons_self ..)) (by decide)
  simp only [putAll, Act.put, List.setIfInBounds_toArray, List.set_cons_zero, List.set_cons_succ, List.drop_succ_cons, List.drop_zero, List.length_cons, List.length_nil] at n4 n5 k4 k5 hd ⊢
  generalize β 4 = p4 at *
  generalize β 5 = p5 at *
  clear hN hD β
  unfold A16
  refine wpList_store_row rfl 30 (.tmp 5) (.tmp 9) rfl p4 _ rfl rfl 30 _ k4 (by kernel_rfl) (by kernel_rfl) (arrK_one _ _ _) ?_
  refine wpList_store_row rfl 30 (.tmp 6) (.tmp 11) rfl p5 _ rfl rfl 30 _ (blk_setRow_other k5 (Ne.symm hd) _) (by kernel_rfl) (by kernel_rfl) (arrK_one _ _ _) ?_
  refine NoPanic.normal (Q := Exit.then _ _) ?_
  have l1 := blk_lt b1
  have l2 := blk_lt b2
  have hE1 : Ext W0 ((W1.setRow p4 (arrK .i64 16 (l16 (A % LL)))).setRow p5 (arrK .i64 16 (l16 (B % LL)))) := below_setRow (below_setRow hE n4 _) n5 _
  refine ex_world (fun W => GL W ∧ Below w.heap.size w W ∧ Blk W w.heap.size (c4 A) 27 ∧ Blk W (w.heap.size + 1) (c4 B) 27 ∧ Blk W p4 (arrK .i64 16 (l16 (A % LL))) 30 ∧ Blk W p5 (arrK .i64 16 (l16 (B % LL))) 30) ⟨GL_step g0 hE1, below_step bel0 hE1 bel0.size, blk_step b1 hE1, blk_step b2 hE1, blk_setRow_other (blk_setRow k4 _) hd _, blk_setRow (blk_setRow_other k5 (Ne.symm hd) _) _⟩ ?_
  clear g0 bel0 b1 b2 k4 k5 hE hE1 l1 l2 n4 n5
  rintro W2 ⟨g2, bel2, b1, b2, b4, b5⟩
  have hby := bytes_c A hA
  unfold L4 at hby
  have HBY := Lib.hid hby
  clear hby
  go_upto_region 3 with (first
    | (refine wpList_load_row rfl 27 (.tmp 2) rfl w.heap.size rfl _ _ _ _ b1 Tryd.underlying27 rfl (by kernel_rfl) ?_)
    | (go_at_call 13; (with_reducible refine (HBY.out _ g2).mono ?_); rintro e w3 ⟨rfl, hb3⟩)
    | (refine wpList_store_row rfl 33 (.tmp 7) (.tmp 13) rfl w3.heap.size _ rfl rfl 33 _ (blk_new _ _ rfl) (by kernel_rfl) (by kernel_rfl) (arrK_one _ _ _) ?_))
  have l1 := blk_lt (blk_step b1 hb3)
  have l2 := blk_lt (blk_step b2 hb3)
  have l4 := blk_lt (blk_step b4 hb3)
  have l5 := blk_lt (blk_step b5 hb3)
  have hE3 : Ext W2 ((w3.alloc (.cells (arrK .u8 32 (fun _ => 0)) 33)).setRow w3.heap.size (arrK .u8 32 (byt (A % LL)))) := below_setRow (below_step (Below.refl _ _) hb3 (Nat.le_refl _) |>.alloc hb3.size _) hb3.size _
  refine wp_world (fun W => GL W ∧ Below w.heap.size w W ∧ Blk W w.heap.size (c4 A) 27 ∧ Blk W (w.heap.size + 1) (c4 B) 27 ∧ Blk W p4 (arrK .i64 16 (l16 (A % LL))) 30 ∧ Blk W p5 (arrK .i64 16 (l16 (B % LL))) 30 ∧ Blk W w3.heap.size (arrK .u8 32 (byt (A % LL))) 33) ⟨GL_step g2 hE3, below_step bel2 hE3 bel2.size, blk_step b1 hE3, blk_step b2 hE3, blk_step b4 hE3, blk_step b5 hE3, blk_setRow (blk_new _ _ rfl) _⟩ ?_
  clear b1 b2 b4 b5 g2 bel2 l1 l2 l4 l5 hE3
  rintro W3 ⟨g3, bel3, b1, b2, b4, b5, b7⟩
  have c1 := add_c A B hA hB
  have c2 := radd_c (A % LL) (B % LL) (Nat.mod_lt _ (by decide)) (Nat.mod_lt _ (by decide))
  rw [← Nat.add_mod] at c2
  have c3 := same_c ((A + B) % LL)
  have c4 := mul_c A B hA hB
  have c5 := rmul_c (A % LL) (B % LL) (Nat.mod_lt _ (by decide)) (lt_256 _)
  rw [← Nat.mul_mod] at c5
  have c6 := same_c (A * B % LL)
  have c7 := neg_c A hA
  have c8 := rneg_c (A % LL) (Nat.mod_lt _ (by decide))
  have c9 := same_c ((LL - A % LL) % LL)
  have c10 := rbytes_c (A % LL)
  have c11 := arr_str
  unfold strN at c10 c11
  have c12 := same_c LL
  have c14 := rL_c
  obtain ⟨S, hS⟩ : ∃ S, S = strOfNums ((List.range 32).map (byt (A % LL))) := ⟨_, rfl⟩
  have c13 := fun W (hW : Ext W3 W) => c11 W w3.heap.size _ (blk_step b7 hW)
  rw [← hS] at c10 c13
  clear hS
  have HC := Lib.hid c13
  clear c11 c13
  refine wp_region_xs (by kernel_rfl) (by kernel_rfl) ?_
  repeat (first
    | (refine wpX_skip (by rfl) ?_; (try simp only [Act.put, List.setIfInBounds_toArray, List.set_cons_zero, List.set_cons_succ]))
    | ((with_reducible refine wpX_load (b := ?_) (cs := ?_) (t := ?_) ?_ rfl ?_ ?_ ?_ ?_ ?_); rotate_left 3; (focus rfl); (focus rfl); (focus assumption); (focus kernel_rfl); (focus kernel_rfl); (try simp only [Act.put, List.setIfInBounds_toArray, List.set_cons_zero, List.set_cons_succ]))
    | ((with_reducible refine wpX_fn (fun W hW => orders_c W (GL_step g3 hW)) ?_ rfl ?_ ?_ ?_); (focus rfl); (focus kernel_rfl); (focus rfl); (try simp only [Act.put, List.setIfInBounds_toArray, List.set_cons_zero, List.set_cons_succ]))
    | ((with_reducible refine wpX_fn (fun W hW => c1 W (GL_step g3 hW)) ?_ rfl ?_ ?_ ?_); (focus rfl); (focus kernel_rfl); (focus rfl); (try simp only [Act.put, List.setIfInBounds_toArray, List.set_cons_zero, List.set_cons_succ]))
    | ((with_reducible refine wpX_fn (fun W hW => c2 W) ?_ rfl ?_ ?_ ?_); (focus rfl); (focus kernel_rfl); (focus rfl); (try simp only [Act.put, List.setIfInBounds_toArray, List.set_cons_zero, List.set_cons_succ]))
    | ((with_reducible refine wpX_fn0 (same_c ?_) ?_ rfl ?_ ?_ ?_); rotate_left 1; (focus rfl); (focus kernel_rfl); (focus rfl); (try simp only [Act.put, List.setIfInBounds_toArray, List.set_cons_zero, List.set_cons_succ]))
    | ((with_reducible refine wpX_fn (fun W hW => c4 W (GL_step g3 hW)) ?_ rfl ?_ ?_ ?_); (focus rfl); (focus kernel_rfl); (focus rfl); (try simp only [Act.put, List.setIfInBounds_toArray, List.set_cons_zero, List.set_cons_succ]))
    | ((with_reducible refine wpX_fn (fun W hW => c5 W) ?_ rfl ?_ ?_ ?_); (focus rfl); (focus kernel_rfl); (focus rfl); (try simp only [Act.put, List.setIfInBounds_toArray, List.set_cons_zero, List.set_cons_succ]))
    | ((with_reducible refine wpX_fn (fun W hW => c7 W (GL_step g3 hW)) ?_ rfl ?_ ?_ ?_); (focus rfl); (focus kernel_rfl); (focus rfl); (try simp only [Act.put, List.setIfInBounds_toArray, List.set_cons_zero, List.set_cons_succ]))
    | ((with_reducible refine wpX_fn (fun W hW => c8 W) ?_ rfl ?_ ?_ ?_); (focus rfl); (focus kernel_rfl); (focus rfl); (try simp only [Act.put, List.setIfInBounds_toArray, List.set_cons_zero, List.set_cons_succ]))
    | ((with_reducible refine wpX_fn (fun W hW => c10 W) ?_ rfl ?_ ?_ ?_); (focus rfl); (focus kernel_rfl); (focus rfl); (try simp only [Act.put, List.setIfInBounds_toArray, List.set_cons_zero, List.set_cons_succ]))
    | ((with_reducible refine wpX_fn (fun W hW => order_c W (GL_step g3 hW)) ?_ rfl ?_ ?_ ?_); (focus rfl); (focus kernel_rfl); (focus rfl); (try simp only [Act.put, List.setIfInBounds_toArray, List.set_cons_zero, List.set_cons_succ]))
    | ((with_reducible refine wpX_fn (fun W hW => c14 W) ?_ rfl ?_ ?_ ?_); (focus rfl); (focus kernel_rfl); (focus rfl); (try simp only [Act.put, List.setIfInBounds_toArray, List.set_cons_zero, List.set_cons_succ]))
    | ((with_reducible refine wpX_conv HC.out ?_ rfl ?_ ?_); (focus rfl); (focus rfl); (try simp only [Act.put, List.setIfInBounds_toArray, List.set_cons_zero, List.set_cons_succ]))
    | (refine wpX_val (v := ?_) (by rfl) (fun W hW => ?_) ?_; rotate_left 1; (focus (go_simp; first | done | with_reducible rfl)); (try simp only [Act.put, List.setIfInBounds_toArray, List.set_cons_zero, List.set_cons_succ])))
  refine wpX_nil ?_
  intro W4 hE
  go_wp2
  exact bodyPost_ret (v := .bool true) (by simp only [results, Tryd.results6]; go_simp) rfl ⟨rfl, below_step bel3 hE bel3.size⟩
end Go.Proofs.YtgmdpiaenfogcaaDoor
