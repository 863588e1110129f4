/- custumallaw06.same and of. Conditions: the two numbers are one. -/
import Derived.Test.YtgmdpiaenfogcaaDoorRfF
import Derived.Test.YtgmdpiaenfogcaaDoorLwB
import Derived.Deep.MidRow
namespace Go.Proofs.YtgmdpiaenfogcaaDoor
open Go.RowKit

/-- sixteen parts as a list, and as a value -/
def q16 (V : Nat) : List Value := lstK .i64 16 (l16 V)
theorem q16_arr (V : Nat) : arrK .i64 16 (l16 V) = (q16 V).toArray := rfl
theorem A16_q16 (V : Nat) : A16 V = .agg (q16 V).toArray := rfl
theorem q16_info (V : Nat) : (Tryd.prog.info? 30).map (·.size) = some (q16 V).length := by
  rw [show (q16 V).length = 16 from lstK_length _ _ _]; kernel_rfl
theorem blk_range {w : World} {b : Nat} {cs : List Value} {t : TypeId} (h : Blk w b cs.toArray t) : w.rangeAt b 0 cs := fun j v hj => by
  rw [Nat.zero_add, blk_cell h]; simpa using hj

def Ks (w0 : World) (B V X : Nat) (w : World) : Prop := Below B w0 w ∧ Blk w B (c4 V) 27 ∧ Blk w (B + 1) (q16 X).toArray 30
theorem Ks_step {w0 : World} {B V X : Nat} {w w' : World} (h : Ks w0 B V X w) (hb : Below w.heap.size w w') : Ks w0 B V X w' :=
  ⟨below_step h.1 hb (Nat.le_of_lt (blk_lt h.2.1)), blk_step h.2.1 hb, blk_step h.2.2 hb⟩
theorem Ks_drew {w0 : World} {B V X : Nat} {w : World} (h : Ks w0 B V X w) : Ks w0 B V X w.drew := ⟨h.1.drew, h.2.1, h.2.2⟩
abbrev Ss (w0 : World) (B V X : Nat) (W : World) : Prop := Ks w0 B V X W ∧ (∀ j, W.cell? ⟨B, j, none⟩ = (c4 V)[j]?) ∧ W.rangeAt (B + 1) 0 (q16 X)
theorem Ss_of {w0 : World} {B V X : Nat} {w : World} (h : Ks w0 B V X w) : Ss w0 B V X w := ⟨h, blk_cell h.2.1, blk_range h.2.2⟩
theorem Ks_of {w0 : World} {B V X : Nat} {w : World} (h : Ss w0 B V X w) : Ks w0 B V X w := h.1
theorem Ks_below {w0 : World} {B V X : Nat} {w : World} (h : Ks w0 B V X w) : Below B w0 w := h.1

set_option maxHeartbeats 2000000 in
theorem same_c (V : Nat) (w : World) : Calls Tryd.prog 8 #[L4 V, A16 V] w fun e w' => Ret (.bool true) w w' e := by
  have hr := raw_c V
  have hb := rbytes_c V
  rw [A16_q16] at hb ⊢
  unfold strN at hr hb
  obtain ⟨S, hS⟩ : ∃ S, S = strOfNums ((List.range 32).map (byt V)) := ⟨_, rfl⟩
  rw [← hS] at hr hb
  unfold L4 at hr
  have HR := Lib.hid hr
  have HB := Lib.hid hb
  clear hr hb hS
  go_enter Tryd.func8, Tryd.ntmps8
  go_wp2_with fail
  refine wp_world (Ks w w.heap.size V V) ⟨(by (repeat' (first | (with_reducible assumption) | (with_reducible exact Below.refl _ _) | (with_reducible refine Below.drew ?_) | (with_reducible refine Below.alloc ?_ ?_ _) | (with_reducible refine below_set ?_ ?_ _ _) | (with_reducible refine below_setRow ?_ ?_ _) | (with_reducible refine below_step ?_ (by assumption) ?_))) <;> (first | omega | ((try simp only [World.size_alloc, World.size_setCell, World.size_drew, size_setRow]); omega))), blk_alloc (blk_new _ _ rfl) _, blk_new _ _ (by simp)⟩ ?_
  intro W hK
  have hu := Tryd.underlying30
  have hq := q16_info V
  go_region_held3 (fun W' => Ks w w.heap.size V V W' ∧ (∀ j, W'.cell? ⟨w.heap.size, j, none⟩ = (c4 V)[j]?) ∧ W'.rangeAt (w.heap.size + 1) 0 (q16 V))
    (first
      | exact Ss_of hK
      | exact Ss_of (Ks_drew hK)
      | exact Ss_of (Ks_drew (Ks_of (by assumption)))
      | exact Ss_of (Ks_step hk hb1))
    (first
      | (go_at_call 25; refine at_world (Ks w w.heap.size V V) (by first | exact Ks_of (by assumption) | exact Ks_drew (Ks_of (by assumption)) | assumption | exact Ks_drew (by assumption)) ?_; intro hk; (with_reducible refine (HR.out _).mono ?_); rintro e w1 ⟨rfl, hb1⟩)
      | (go_at_call 12; refine at_world (Ks w w.heap.size V V) (by first | exact Ks_of (by assumption) | exact Ks_drew (Ks_of (by assumption)) | assumption | exact Ks_drew (by assumption)) ?_; intro hk; (with_reducible refine (HB.out _).mono ?_); rintro e w1 ⟨rfl, hb1⟩))
  go_wp2
  refine bodyPost_ret (v := .bool true) (by simp only [results, Tryd.results8]; go_simp) rfl ⟨rfl, ?_⟩
  refine Ks_below (?_ : Ks w w.heap.size V V _)
  first | assumption | exact Ks_of (by assumption) | exact Ks_drew (Ks_of (by assumption)) | exact Ks_drew (by assumption)

set_option maxHeartbeats 2000000 in
theorem law_of_c (V : Nat) (hV : V < P256) (w : World) : Calls Tryd.prog 15 #[L4 V] w fun e w' => Ret (A16 (V % LL)) w w' e := by
  have hr := raw_c V
  have ho := rof_c 32 V hV (by omega)
  unfold L4 at hr
  unfold A16 at ho ⊢
  have HR := Lib.hid hr
  have HO := Lib.hid ho
  clear hr ho hV
  go_enter Tryd.func15, Tryd.ntmps15
  go_wp2_with (first
    | (go_at_call 25; (with_reducible refine (HR.out _).mono ?_); rintro e w1 ⟨rfl, hb1⟩
       have b1 : Blk w1 (w.heap.size + 1) (arrK .i64 16 (fun _ => 0)) 30 := blk_step (blk_new _ _ (by simp)) hb1
       have hbel1 : Below w.heap.size w w1 := below_step (((Below.refl _ _).alloc (Nat.le_refl _) _).alloc (by simp) _) hb1 (by simp only [World.size_alloc]; omega))
    | (go_at_call 10; (with_reducible refine (HO.out _).mono ?_); rintro e w2 ⟨rfl, hb2⟩; have b2 := blk_step b1 hb2; have hbel2 := below_step hbel1 hb2 hbel1.size)
    | (refine wpList_store_row rfl 30 (.tmp 2) (.tmp 5) rfl (w.heap.size + 1) _ rfl rfl 30 _ b2 (by kernel_rfl) (by kernel_rfl) (arrK_one _ _ _) ?_))
  refine bodyPost_ret (results_cell_row rfl _ _ (w.heap.size + 1) _ _ _ _ rfl (blk_setRow b2 _) Tryd.underlying30 rfl (by kernel_rfl)) rfl ⟨rfl, below_setRow hbel2 (by omega) _⟩
end Go.Proofs.YtgmdpiaenfogcaaDoor
