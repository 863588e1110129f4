/- scalar.Add. -/
import Derived.Test.YtgmdpiaenfogcaaDoorScC
namespace Go.Proofs.YtgmdpiaenfogcaaDoor
open Go.RowKit

@[go_sem] def c4 (V : Nat) : Array Value := #[.int .u64 (lim V 0), .int .u64 (lim V 1), .int .u64 (lim V 2), .int .u64 (lim V 3)]
theorem fold4_c (V b : Nat) (hV : V < P256) (w : World) (hG : GL w) (hB : Blk w b (c4 V) 27) :
    Calls Tryd.prog 26 #[.slice (some ⟨b, 0, none⟩) 4 4] w fun e w' => Ret (L4 (V % LL)) w w' e := by
  have h := fold_c (lim V) b 0 4 4 w hG (by omega) (fun j _ => lim_ok V j) (fun j hj => by
    have h4 : j = 0 ∨ j = 1 ∨ j = 2 ∨ j = 3 := by omega
    refine (blk_cell hB _).trans ?_
    rcases h4 with rfl | rfl | rfl | rfl <;> rfl) (blk_lt hB)
  rw [wval_lim4 V hV] at h
  exact h
theorem GL_step {w w' : World} (h : GL w) (hb : Below w.heap.size w w') : GL w' := GL_below h hb h.2.2.2.2
theorem GL_alloc {w : World} (h : GL w) (o : Obj) : GL (w.alloc o) := GL_below h ((Below.refl _ _).alloc (Nat.le_refl _) o) h.2.2.2.2

set_option maxHeartbeats 2000000 in
theorem add_c (A B : Nat) (hA : A < P256) (hB : B < P256) (w : World) (hG : GL w) :
    Calls Tryd.prog 18 #[L4 A, L4 B] w fun e w' => Ret (L4 ((A + B) % LL)) w w' e := by
  have HG := Lib.hid hG
  clear hG
  go_enter Tryd.func18, Tryd.ntmps18
  go_wp2
  refine wp_world (fun W => Below w.heap.size w W ∧ w.heap.size + 2 < W.heap.size ∧ Blk W w.heap.size (c4 A) 27 ∧ Blk W (w.heap.size + 1) (c4 B) 27 ∧ Blk W (w.heap.size + 2) #[.int .u64 0, .int .u64 0, .int .u64 0, .int .u64 0] 27)
    ⟨(by (repeat' (first | (with_reducible assumption) | (with_reducible exact Below.refl _ _) | (with_reducible refine Below.drew ?_) | (with_reducible refine Below.alloc ?_ ?_ _) | (with_reducible refine below_set ?_ ?_ _ _) | (with_reducible refine below_setRow ?_ ?_ _) | (with_reducible refine below_step ?_ (by assumption) ?_))) <;> (first | omega | ((try simp only [World.size_alloc, World.size_setCell, World.size_drew, size_setRow]); omega))), by simp, blk_alloc (blk_alloc (blk_new _ _ rfl) _) _, blk_alloc (blk_new _ _ (by simp)) _, blk_new _ _ (by simp)⟩ ?_
  rintro W ⟨hbel, hsz, b2, b3, b4⟩
  have HGW : Hid (GL W.drew) := Lib.hid (GL_below HG.out hbel.drew HG.out.2.2.2.2)
  have b2 := blk_drew b2
  have b3 := blk_drew b3
  go_region_with (first
    | (go_at_call 26; (with_reducible refine (fold4_c A w.heap.size hA _ HGW.out b2).mono ?_); rintro e w1 ⟨rfl, hb1⟩; have b21 := blk_step b2 hb1; have b31 := blk_step b3 hb1)
    | (go_at_call 26; (with_reducible refine (fold4_c B (w.heap.size + 1) hB _ (GL_step HGW.out hb1) b31).mono ?_); rintro e w2 ⟨rfl, hb2⟩; have c22 := blk_cell (blk_step b21 hb2); have f22 := blk_free (blk_step b21 hb2); have c32 := blk_cell (blk_step b31 hb2); have f32 := blk_free (blk_step b31 hb2)))
  clear c22 f22 c32 f32
  have b22 := blk_step b21 hb2
  have b32 := blk_step b31 hb2
  have b42 := blk_step (blk_step (blk_drew b4) hb1) hb2
  have s1 := hb1.size
  have s2 := hb2.size
  simp only [World.size_drew] at s1
  have hw2 : Below w.heap.size w w2 := below_step (below_step hbel.drew hb1 (by simp only [World.size_drew]; omega)) hb2 (by omega)
  have hne : w.heap.size + 2 < w2.heap.size := by omega
  clear hb1 hb2 b21 b31 b2 b3 b4 HGW s1 s2
  refine ex_world (fun W => Below w.heap.size w W ∧ w.heap.size + 2 < W.heap.size ∧ Blk W w.heap.size (c4 (A % LL)) 27 ∧ Blk W (w.heap.size + 1) (c4 (B % LL)) 27 ∧ Blk W (w.heap.size + 2) #[.int .u64 0, .int .u64 0, .int .u64 0, .int .u64 0] 27)
    ⟨(by (repeat' (first | (with_reducible assumption) | (with_reducible exact Below.refl _ _) | (with_reducible refine Below.drew ?_) | (with_reducible refine Below.alloc ?_ ?_ _) | (with_reducible refine below_set ?_ ?_ _ _) | (with_reducible refine below_setRow ?_ ?_ _) | (with_reducible refine below_step ?_ (by assumption) ?_))) <;> (first | omega | ((try simp only [World.size_alloc, World.size_setCell, World.size_drew, size_setRow]); omega))), by simpa using hne, blk_other4 (blk_set4 b22 _ _ _ _) (by omega) _ _ _ _, blk_set4 (blk_other4 b32 (by omega) _ _ _ _) _ _ _ _, blk_other4 (blk_other4 b42 (by omega) _ _ _ _) (by omega) _ _ _ _⟩ ?_
  clear hw2 b22 b32 b42 hbel hsz hne
  rintro X ⟨hbel, hsz, b2, b3, b4⟩
  have HGX := Lib.hid (GL_below HG.out hbel HG.out.2.2.2.2)
  have hlA := lim_U4 (A % LL)
  have hlB := lim_U4 (B % LL)
  have hch := add_chain _ _ _ _ _ _ _ _ 0 hlA hlB (by omega) (by omega)
  have q0 := adC_b _ _ 0 hlA.1 hlB.1 (by omega) (by omega)
  have q1 := adC_b _ _ _ hlA.2.1 hlB.2.1 q0.1 q0.2
  have q2 := adC_b _ _ _ hlA.2.2.1 hlB.2.2.1 q1.1 q1.2
  have h0 := add64_run _ _ 0 hlA.1 hlB.1 (by omega) (by omega)
  have h1 := add64_run _ _ _ hlA.2.1 hlB.2.1 q0.1 q0.2
  have h2 := add64_run _ _ _ hlA.2.2.1 hlB.2.2.1 q1.1 q1.2
  have h3 := add64_run _ _ _ hlA.2.2.2 hlB.2.2.2 q2.1 q2.2
  obtain ⟨e0, e1, e2, e3⟩ := A4_inj hch.1
  rw [e0] at h0
  rw [e1] at h1
  rw [e2] at h2
  rw [e3] at h3
  clear hch q0 q1 q2 hlA hlB e0 e1 e2 e3
  have hS : (A % LL + B % LL + (0 : Int).toNat) % 115792089237316195423570985008687907853269984665640564039457584007913129639936 = A % LL + B % LL := by
    have := Nat.mod_lt A (show 0 < LL by decide)
    have := Nat.mod_lt B (show 0 < LL by decide)
    unfold LL at *
    omega
  rw [val4_lim _ (lt_256 A), val4_lim _ (lt_256 B), hS] at h0 h1 h2 h3
  have hS2 : A % LL + B % LL < 2 * LL := by
    have := Nat.mod_lt A (show 0 < LL by decide)
    have := Nat.mod_lt B (show 0 < LL by decide)
    omega
  have hS3 : (A % LL + B % LL) % LL = (A + B) % LL := by rw [← Nat.add_mod]
  generalize A % LL + B % LL = S at *
  have HS := Lib.hid hS2
  have HS3 := Lib.hid hS3
  clear hS hS2 hS3
  have x2 := blk_cell b2
  have x3 := blk_cell b3
  obtain ⟨g0, g1, g2, g3, g4⟩ := HGX.out
  have n1 : w.heap.size < X.heap.size := by omega
  have n2 : w.heap.size + 1 < X.heap.size := by omega
  go_wp2
  refine wp_loop_rounds 5 ?_
  rw [rounds_succ]
  go_wp2
  go_region
  go_wp2
  rw [rounds_succ]
  go_wp2
  go_region
  go_wp2
  rw [rounds_succ]
  go_wp2
  go_region
  go_wp2
  rw [rounds_succ]
  go_wp2
  go_region
  go_wp2
  rw [rounds_succ]
  go_wp2_with fail
  have hS4 : S < P256 := by have := HS.out; unfold LL at this; unfold P256; omega
  refine (lessO S hS4 _).mono ?_
  rintro e w3 ⟨rfl, hb3⟩
  have b23 := blk_step (blk_drew (blk_drew (blk_drew (blk_drew (blk_alloc b4 _))))) hb3
  have b53 : Blk w3 X.heap.size (c4 S) 27 := blk_step (blk_drew (blk_drew (blk_drew (blk_drew (blk_new _ _ rfl))))) hb3
  have s3 := hb3.size
  simp only [World.size_drew, World.size_alloc] at s3
  have hX3 : Below w.heap.size w w3 := below_step (by (repeat' (first | (with_reducible assumption) | (with_reducible exact Below.refl _ _) | (with_reducible refine Below.drew ?_) | (with_reducible refine Below.alloc ?_ ?_ _) | (with_reducible refine below_set ?_ ?_ _ _) | (with_reducible refine below_setRow ?_ ?_ _) | (with_reducible refine below_step ?_ (by assumption) ?_))) <;> (first | omega | ((try simp only [World.size_alloc, World.size_setCell, World.size_drew, size_setRow]); omega))) hb3 (by simp only [World.size_drew, World.size_alloc]; omega)
  have HG3 := Lib.hid (GL_below HG.out hX3 HG.out.2.2.2.2)
  clear b2 b3 b4 hbel x2 x3 h0 h1 h2 h3 hb3 g0 g1 g2 g3 g4 HGX
  have z2 := blk_cell b23
  have t2 := blk_free b23
  have z5 := blk_cell b53
  obtain ⟨g0, g1, g2, g3, g4⟩ := HG3.out
  by_cases hlt : S < LL
  · rw [show decide (S < LL) = true from decide_eq_true hlt]
    have HL := Lib.hid hlt
    clear hlt
    go_wp2
    refine bodyPost_ret (v := L4 S) (by simp only [results, Tryd.results18]; go_simp) rfl ⟨?_, ?_⟩
    · rw [← HS3.out, Nat.mod_eq_of_lt HL.out]
    · (repeat' (first | (with_reducible assumption) | (with_reducible exact Below.refl _ _) | (with_reducible refine Below.drew ?_) | (with_reducible refine Below.alloc ?_ ?_ _) | (with_reducible refine below_set ?_ ?_ _ _) | (with_reducible refine below_setRow ?_ ?_ _) | (with_reducible refine below_step ?_ (by assumption) ?_))) <;> (first | omega | ((try simp only [World.size_alloc, World.size_setCell, World.size_drew, size_setRow]); omega))
  · rw [show decide (S < LL) = false from decide_eq_false hlt]
    have HL := Lib.hid hlt
    clear hlt
    go_wp2_with (go_at_call 30; refine (subO S hS4 _).mono ?_; rintro e w4 ⟨rfl, hb4⟩; have z24 := blk_cell (blk_step b23 hb4); have t24 := blk_free (blk_step b23 hb4); have s4 := hb4.size; have n4 : w.heap.size + 2 < w4.heap.size := by omega)
    refine bodyPost_ret (v := L4 (dif4 S LL)) (by simp only [results, Tryd.results18]; go_simp) rfl ⟨?_, ?_⟩
    · rw [← HS3.out, red_LL _ HS.out HL.out]
    · (repeat' (first | (with_reducible assumption) | (with_reducible exact Below.refl _ _) | (with_reducible refine Below.drew ?_) | (with_reducible refine Below.alloc ?_ ?_ _) | (with_reducible refine below_set ?_ ?_ _ _) | (with_reducible refine below_setRow ?_ ?_ _) | (with_reducible refine below_step ?_ (by assumption) ?_))) <;> (first | omega | ((try simp only [World.size_alloc, World.size_setCell, World.size_drew, size_setRow]); omega))
end Go.Proofs.YtgmdpiaenfogcaaDoor
