/- custumallaw06.ScalarLaws is true of all numbers. -/
import Derived.Test.YtgmdpiaenfogcaaDoorLwA
import Derived.Deep.RegionHeld3
namespace Go.Proofs.YtgmdpiaenfogcaaDoor
open Go.RowKit

/-- What the region keeps: the order, and three numbers in their blocks. -/
def K3 (w0 : World) (B A1 A2 A3 : Nat) (w : World) : Prop :=
  GL w ∧ Below B w0 w ∧ Blk w B (c4 A1) 27 ∧ Blk w (B + 1) (c4 A2) 27 ∧ Blk w (B + 2) (c4 A3) 27
theorem K3_step {w0 : World} {B A1 A2 A3 : Nat} {w w' : World} (h : K3 w0 B A1 A2 A3 w) (hb : Below w.heap.size w w') : K3 w0 B A1 A2 A3 w' := by
  obtain ⟨h0, h1, h2, h3, h4⟩ := h
  exact ⟨GL_step h0 hb, below_step h1 hb (Nat.le_of_lt (blk_lt h2)), blk_step h2 hb, blk_step h3 hb, blk_step h4 hb⟩
theorem K3.below {w0 : World} {B A1 A2 A3 : Nat} {w : World} (h : K3 w0 B A1 A2 A3 w) : Below B w0 w := h.2.1
theorem K3_drew {w0 : World} {B A1 A2 A3 : Nat} {w : World} (h : K3 w0 B A1 A2 A3 w) : K3 w0 B A1 A2 A3 w.drew := by
  obtain ⟨h0, h1, h2, h3, h4⟩ := h
  exact ⟨h0, h1.drew, h2, h3, h4⟩
abbrev S3 (w0 : World) (B A1 A2 A3 : Nat) (W : World) : Prop :=
  K3 w0 B A1 A2 A3 W ∧ (∀ j, W.cell? ⟨B, j, none⟩ = (c4 A1)[j]?) ∧ (∀ j, W.cell? ⟨B + 1, j, none⟩ = (c4 A2)[j]?) ∧ (∀ j, W.cell? ⟨B + 2, j, none⟩ = (c4 A3)[j]?)
theorem S3_of {w0 : World} {B A1 A2 A3 : Nat} {w : World} (h : K3 w0 B A1 A2 A3 w) : S3 w0 B A1 A2 A3 w :=
  ⟨h, blk_cell h.2.2.1, blk_cell h.2.2.2.1, blk_cell h.2.2.2.2⟩

theorem K3_of {w0 : World} {B A1 A2 A3 : Nat} {w : World} (h : S3 w0 B A1 A2 A3 w) : K3 w0 B A1 A2 A3 w := h.1
/-- A fact of the world of a call, laid before it. -/
theorem at_world {P : Program} {f : FuncId} {vs : Array Value} {w : World} {Q : Ending → World → Prop} (F : World → Prop) (h : F w) (k : F w → Calls P f vs w Q) : Calls P f vs w Q := k h
theorem L4_zero : L4 0 = .agg #[.int .u64 0, .int .u64 0, .int .u64 0, .int .u64 0] := by
  unfold L4; rw [show lim 0 0 = 0 by decide +kernel, show lim 0 1 = 0 by decide +kernel, show lim 0 2 = 0 by decide +kernel, show lim 0 3 = 0 by decide +kernel]
theorem law_dist (A B C : Nat) : A * ((B + C) % LL) % LL = (A * B % LL + A * C % LL) % LL := by
  rw [← Nat.add_mod, ← Nat.mul_add, Nat.mul_mod, Nat.mod_mod, ← Nat.mul_mod]
theorem law_opp (A : Nat) : (A + (LL - A % LL) % LL) % LL = 0 := by
  have hN : A % LL < LL := Nat.mod_lt _ (by decide)
  rw [Nat.add_mod, Nat.mod_mod]
  by_cases h : A % LL = 0
  · rw [h]; simp
  · rw [Nat.mod_eq_of_lt (show LL - A % LL < LL by omega), show A % LL + (LL - A % LL) = LL by omega, Nat.mod_self]

set_option maxHeartbeats 4000000 in
theorem slaws_c (A B C : Nat) (hA : A < P256) (hB : B < P256) (hC : C < P256) (w : World) (hG : GL w) :
    Calls Tryd.prog 5 #[L4 A, L4 B, L4 C] w fun e w' => Ret (.bool true) w w' e := by
  have HG := Lib.hid hG
  clear hG
  have m1 := mul_c A 1 hA (by decide)
  rw [L4_one] at m1
  have a0 := add_c A 0 hA (by decide)
  rw [L4_zero] at a0
  have m2 := mul_c A ((B + C) % LL) hA (lt_256 _)
  have m3 := mul_c A B hA hB
  have m4 := mul_c A C hA hC
  have a1 := add_c B C hB hC
  have a2 := add_c (A * B % LL) (A * C % LL) (lt_256 _) (lt_256 _)
  have a3 := add_c A ((LL - A % LL) % LL) hA (lt_256 _)
  have n1 := neg_c A hA
  obtain ⟨S1, hS1⟩ : ∃ S, S = (B + C) % LL := ⟨_, rfl⟩
  rw [law_dist, ← hS1] at m2
  rw [← hS1] at a1
  obtain ⟨P2, hP2⟩ : ∃ S, S = A * B % LL := ⟨_, rfl⟩
  rw [← hP2] at m2 m3 a2
  obtain ⟨P3, hP3⟩ : ∃ S, S = A * C % LL := ⟨_, rfl⟩
  rw [← hP3] at m2 m4 a2
  obtain ⟨Q1, hQ1⟩ : ∃ S, S = (P2 + P3) % LL := ⟨_, rfl⟩
  rw [← hQ1] at m2 a2
  obtain ⟨U1, hU1⟩ : ∃ S, S = A % LL := ⟨_, rfl⟩
  rw [Nat.mul_one, ← hU1] at m1
  rw [Nat.add_zero, ← hU1] at a0
  obtain ⟨N, hN⟩ : ∃ S, S = (LL - A % LL) % LL := ⟨_, rfl⟩
  rw [law_opp, ← hN] at a3
  rw [← hN] at n1
  have e1 := fun W => eq4 Q1 Q1 (by rw [hQ1]; exact lt_256 _) (by rw [hQ1]; exact lt_256 _) W
  have e2 := fun W => eq4z 0 (by decide) W
  have e3 := fun W => eq4 U1 U1 (by rw [hU1]; exact lt_256 _) (by rw [hU1]; exact lt_256 _) W
  rw [decide_eq_true rfl] at e1 e2 e3
  unfold c4 at e1 e3
  rw [show lim 0 0 = 0 by decide +kernel, show lim 0 1 = 0 by decide +kernel, show lim 0 2 = 0 by decide +kernel, show lim 0 3 = 0 by decide +kernel] at e2
  rw [L4_zero] at a3
  clear hS1 hP2 hP3 hQ1 hU1 hN
  unfold L4 at m1 m2 m3 m4 a0 a1 a2 a3 n1
  have M1 := Lib.hid m1
  have M2 := Lib.hid m2
  have M3 := Lib.hid m3
  have M4 := Lib.hid m4
  have A0 := Lib.hid a0
  have A1 := Lib.hid a1
  have A2 := Lib.hid a2
  have A3 := Lib.hid a3
  have N1 := Lib.hid n1
  clear hA hB hC m1 m2 m3 m4 a0 a1 a2 a3 n1
  go_enter Tryd.func5, Tryd.ntmps5
  go_wp2_with fail
  refine wp_world (K3 w w.heap.size A B C) ⟨GL_alloc (GL_alloc (GL_alloc HG.out _) _) _, (by (repeat' (first | (with_reducible assumption) | (with_reducible exact Below.refl _ _) | (with_reducible refine Below.drew ?_) | (with_reducible refine Below.alloc ?_ ?_ _) | (with_reducible refine below_set ?_ ?_ _ _) | (with_reducible refine below_setRow ?_ ?_ _) | (with_reducible refine below_step ?_ (by assumption) ?_))) <;> (first | omega | ((try simp only [World.size_alloc, World.size_setCell, World.size_drew, size_setRow]); omega))), blk_alloc (blk_alloc (blk_new _ _ rfl) _) _, blk_alloc (blk_new _ _ (by simp)) _, blk_new _ _ (by simp)⟩ ?_
  intro W hK
  go_region_held3 (fun W' => K3 w w.heap.size A B C W' ∧ (∀ j, W'.cell? ⟨w.heap.size, j, none⟩ = (c4 A)[j]?) ∧ (∀ j, W'.cell? ⟨w.heap.size + 1, j, none⟩ = (c4 B)[j]?) ∧ (∀ j, W'.cell? ⟨w.heap.size + 2, j, none⟩ = (c4 C)[j]?))
    (first
      | exact S3_of hK
      | exact S3_of (K3_drew hK)
      | exact S3_of (K3_drew (K3_of (by assumption)))
      | exact S3_of (K3_step hk hb1))
    (first
      | (go_at_call 7; refine at_world (K3 w w.heap.size A B C) (by first | exact K3_of (by assumption) | exact K3_drew (K3_of (by assumption)) | assumption | exact K3_drew (by assumption)) ?_; intro hk; have hg := hk.1; refine (orders_c _ hk.1).mono ?_; rintro e w1 ⟨rfl, hb1⟩)
      | (go_at_call 17; refine at_world (K3 w w.heap.size A B C) (by first | exact K3_of (by assumption) | exact K3_drew (K3_of (by assumption)) | assumption | exact K3_drew (by assumption)) ?_; intro hk; have hg := hk.1; (with_reducible first | refine (M2.out _ hg).mono ?_ | refine (M3.out _ hg).mono ?_ | refine (M4.out _ hg).mono ?_ | refine (M1.out _ hg).mono ?_); rintro e w1 ⟨rfl, hb1⟩)
      | (go_at_call 18; refine at_world (K3 w w.heap.size A B C) (by first | exact K3_of (by assumption) | exact K3_drew (K3_of (by assumption)) | assumption | exact K3_drew (by assumption)) ?_; intro hk; have hg := hk.1; (with_reducible first | refine (A1.out _ hg).mono ?_ | refine (A2.out _ hg).mono ?_ | refine (A3.out _ hg).mono ?_ | refine (A0.out _ hg).mono ?_); rintro e w1 ⟨rfl, hb1⟩)
      | (go_at_call 19; refine at_world (K3 w w.heap.size A B C) (by first | exact K3_of (by assumption) | exact K3_drew (K3_of (by assumption)) | assumption | exact K3_drew (by assumption)) ?_; intro hk; have hg := hk.1; (with_reducible first | refine (N1.out _ hg).mono ?_); rintro e w1 ⟨rfl, hb1⟩))
  go_wp2
  refine bodyPost_ret (v := .bool true) (by simp only [results, Tryd.results5]; go_simp) rfl ⟨rfl, ?_⟩
  refine K3.below (?_ : K3 w w.heap.size A B C _)
  first | assumption | exact K3_of (by assumption) | exact K3_drew (K3_of (by assumption)) | exact K3_drew (by assumption)
end Go.Proofs.YtgmdpiaenfogcaaDoor
