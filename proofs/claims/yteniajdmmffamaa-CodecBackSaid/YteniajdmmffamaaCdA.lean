/- bytes.Clone; codec's Writer: a byte. No conditions but that memory holds what is written. -/
import Derived.Test.YteniajdmmffamaaSt
namespace Go.Proofs.Yteniajdmmffamaa
set_option linter.unusedSimpArgs false
set_option linter.unusedVariables false
open Go.RowKit

/-- A new row of bytes. -/
structure NewB (w : World) (l : List UInt8) (v : Value) (w' : World) : Prop where
  own : Own w' v l
  off : Off [] w w'
  fr : Fr v.ownBlock w.heap.size []

set_option maxHeartbeats 4000000 in
theorem clone_nil (w : World) :
    Calls Try.prog 18 #[.slice none 0 0] w fun e w' => ∃ v, e = .returned v ∧ NewB w [] v w' := by
  have off0 : Off [] w w := Off.refl _ _
  have sz := off0.size
  go_enter Try.func18, Try.ntmps18
  go_upto_region 1 with fail
  refine wp_region_lit ?_
  (refine wpL_val (v := ?_) (by rfl) ?_ ?_; rotate_left 1; (focus (go_simp; first | done | with_reducible rfl)))
  (try simp only [Act.put, List.setIfInBounds_toArray, List.set_cons_zero, List.set_cons_succ])
  refine wpL_val (v := .bool true) (by rfl) (by first | rfl | (go_simp; done) | (go_simp; with_reducible rfl) | (go_simp; omega)) ?_
  (try simp only [Act.put, List.setIfInBounds_toArray, List.set_cons_zero, List.set_cons_succ])
  refine wpL_nil ?_
  go_wp2
  exact bodyPost_ret (v := .slice none 0 0) (by simp only [results, Try.results18]; go_simp) rfl ⟨_, rfl, own_nil _, off0, fr_none⟩
set_option maxHeartbeats 4000000 in
theorem clone_some (ad : Addr) (c : Nat) (l : List UInt8) (w : World) (hs : Sl w (.slice (some ad) l.length c) l) (hl : l.length ≤ 140737488355328) :
    Calls Try.prog 18 #[.slice (some ad) l.length c] w fun e w' => ∃ v, e = .returned v ∧ NewB w ([] ++ l) v w' := by
  have off0 : Off [] w w := Off.refl _ _
  have sz := off0.size
  have ow_a := hs
  go_enter Try.func18, Try.ntmps18
  go_upto_region 1 with fail
  refine wp_region_lit ?_
  (refine wpL_val (v := ?_) (by rfl) ?_ ?_; rotate_left 1; (focus (go_simp; first | done | with_reducible rfl)))
  (try simp only [Act.put, List.setIfInBounds_toArray, List.set_cons_zero, List.set_cons_succ])
  refine wpL_val (v := .bool false) (by rfl) (by first | rfl | (go_simp; done) | (go_simp; with_reducible rfl) | (go_simp; omega)) ?_
  (try simp only [Act.put, List.setIfInBounds_toArray, List.set_cons_zero, List.set_cons_succ])
  refine wpL_nil ?_
  go_upto_region 3 with fail
  refine wp_region_lit ?_
  refine wpL_newS (z := #[]) (t := 5) (n := 0) (c := 0) (by rfl) (by first | kernel_rfl | (go_simp; done) | (go_simp; rfl)) ?_
  (try simp only [Act.put, List.setIfInBounds_toArray, List.set_cons_zero, List.set_cons_succ])
  intro p5_1 W1 n_s5 hO h_
  have dj_a_s5 : ∀ x, (sb (.slice (some ad) l.length c) l) = some x → Value.ownBlock (.slice (some ⟨p5_1, 0, none⟩) 0 0) ≠ some x := dj_new (Sl.lt ow_a) n_s5
  have fr_s5 : Fr (Value.ownBlock (.slice (some ⟨p5_1, 0, none⟩) 0 0)) w.heap.size [] := fr_new (Nat.le_trans sz n_s5)
  replace ow_a := Sl.off ow_a hO f0
  replace off0 := off0.step hO i0
  replace sz := off0.size
  have ow_s5 : Own W1 (.slice (some ⟨p5_1, 0, none⟩) 0 0) [] := own_blk h_ (by rfl) (by show 0 ≤ maxLen; decide)
  clear hO h_ n_s5
  (refine wpL_val (v := ?_) (by rfl) ?_ ?_; rotate_left 1; (focus (go_simp; first | done | with_reducible rfl)))
  (try simp only [Act.put, List.setIfInBounds_toArray, List.set_cons_zero, List.set_cons_succ])
  refine wpL_append (xs := []) (ys := l) (by rfl) rfl rfl rfl ow_s5 ow_a (by first | omega | (simp only [List.length_append, List.length_cons, List.length_nil]; omega)) ?_
  (try simp only [Act.put, List.setIfInBounds_toArray, List.set_cons_zero, List.set_cons_succ])
  intro v7_2 W2 ow_a7 hO at_a7 nil_a7
  clear nil_a7
  have dj_a7_a := own_dj at_a7 (dj_symm dj_a_s5) (Sl.lt ow_a)
  have fr_a7 := own_fr at_a7 fr_s5 sz
  replace ow_a := Sl.off ow_a hO (fo (dj_symm dj_a_s5))
  replace off0 := off0.step hO (io fr_s5)
  replace sz := off0.size
  clear hO at_a7
  (refine wpL_val (v := ?_) (by rfl) ?_ ?_; rotate_left 1; (focus (go_simp; first | done | with_reducible rfl)))
  (try simp only [Act.put, List.setIfInBounds_toArray, List.set_cons_zero, List.set_cons_succ])
  refine wpL_nil ?_
  go_wp2
  exact bodyPost_ret (v := v7_2) (by simp only [results, Try.results18]; go_simp) rfl ⟨_, rfl, ow_a7, off0, fr_a7⟩
theorem clone_c {u : Value} {l : List UInt8} {w : World} (hs : Sl w u l) (hl : l.length ≤ 140737488355328) : Calls Try.prog 18 #[u] w fun e w' => ∃ v, e = .returned v ∧ NewB w l v w' := by
  obtain ⟨A, c, rfl, h1, h2, h0, h3⟩ := hs
  rcases A with _ | ad
  · have : l = [] := by
      cases l with
      | nil => rfl
      | cons x r => obtain ⟨ad, h, _⟩ := h3 0 x rfl; cases h
    subst this
    rw [h0 rfl]
    exact clone_nil w
  · exact clone_some ad c l w ⟨some ad, c, rfl, h1, h2, h0, h3⟩ hl
/-- A writer: its row of bytes, and whether something was too big. -/
def Wr (w : World) (p : Nat) (v : Value) (l : List UInt8) (big : Bool) : Prop := Blk w p #[v, .bool big] 31 ∧ Own w v l
/-- What a writer's method leaves. -/
structure WrTo (w : World) (p : Nat) (v : Value) (l : List UInt8) (big : Bool) (v' : Value) (w' : World) : Prop where
  wr : Wr w' p v' l big
  off : Off (p :: v.ownBlock.toList) w w'
  fr : Fr v'.ownBlock w.heap.size v.ownBlock.toList
theorem fr_cons {O : Option Nat} {n b : Nat} {F : List Nat} (h : Fr O n (b :: F)) (hb : O ≠ some b) : Fr O n F := fun x hx hn => (List.mem_cons.1 (h x hx hn)).resolve_left fun e => hb (by rw [← e]; exact hx)
theorem wrap_u8 (c : UInt8) : IntKind.wrap .u8 (c.toNat : Int) = c.toNat := by
  have := c.toNat_lt
  rw [IntKind.wrap_u8]; omega

set_option maxHeartbeats 4000000 in
theorem wbyte_in (p : Nat) (c : UInt8) (v : Value) (l : List UInt8) (big : Bool) (w : World) (hwr : Wr w p v l big) (hl : l.length < 140737488355328) :
    Calls Try.prog 6 #[.pointer (some ⟨p, 0, none⟩), .int .i64 (c.toNat : Int)] w fun e w' => e = .returned (.tuple #[]) ∧ ∃ v', WrTo w p v (l ++ [c]) big v' w' := by
  have c0 : (0 : Int) ≤ (c.toNat : Int) := Int.natCast_nonneg _
  have c1 : (c.toNat : Int) ≤ 255 := by have := c.toNat_lt; omega
  have wc := wrap_u8 c
  have off0 : Off (p :: v.ownBlock.toList) w w := Off.refl _ _
  have sz := off0.size
  obtain ⟨k_p, ow_b⟩ := hwr
  have ne_b_p := ow_b.ne_blk k_p (by decide)
  have fb_p : Fb p w.heap.size (p :: v.ownBlock.toList) := fun _ => by simp
  have fr_b : Fr (Value.ownBlock v) w.heap.size (p :: v.ownBlock.toList) := fun x hx _ => by simp [hx]
  go_enter Try.func6, Try.ntmps6
  go_upto_region 0 with fail
  refine wp_region_lit ?_
  (refine wpL_val (v := ?_) (by rfl) ?_ ?_; rotate_left 1; (focus (go_simp; first | done | with_reducible rfl)))
  (try simp only [Act.put, List.setIfInBounds_toArray, List.set_cons_zero, List.set_cons_succ])
  (refine wpL_val (v := ?_) (by rfl) ?_ ?_; rotate_left 1; (focus (go_simp; first | done | with_reducible rfl)))
  (try simp only [Act.put, List.setIfInBounds_toArray, List.set_cons_zero, List.set_cons_succ])
  (refine wpL_val (v := ?_) (by rfl) ?_ ?_; rotate_left 1; (focus (go_simp; first | done | with_reducible rfl)))
  (try simp only [Act.put, List.setIfInBounds_toArray, List.set_cons_zero, List.set_cons_succ])
  (refine wpL_val (v := ?_) (by rfl) ?_ ?_; rotate_left 1; (focus (go_simp; first | done | with_reducible rfl)))
  (try simp only [Act.put, List.setIfInBounds_toArray, List.set_cons_zero, List.set_cons_succ])
  refine wpL_get (v := v) (by rfl) rfl rfl k_p (by rfl) (by kernel_rfl) ?_
  (try simp only [Act.put, List.setIfInBounds_toArray, List.set_cons_zero, List.set_cons_succ])
  (refine wpL_val (v := ?_) (by rfl) ?_ ?_; rotate_left 1; (focus (go_simp; first | done | with_reducible rfl)))
  (try simp only [Act.put, List.setIfInBounds_toArray, List.set_cons_zero, List.set_cons_succ])
  refine wpL_val (v := .int .u8 (c.toNat : Int)) (by rfl) (by first | rfl | (go_simp; done) | (go_simp; with_reducible rfl) | (go_simp; omega)) ?_
  (try simp only [Act.put, List.setIfInBounds_toArray, List.set_cons_zero, List.set_cons_succ])
  refine wpL_newS (z := #[.int .u8 (c.toNat : Int)]) (t := 5) (n := 1) (c := 1) (by rfl) (by first | kernel_rfl | (go_simp; done) | (go_simp; rfl)) ?_
  (try simp only [Act.put, List.setIfInBounds_toArray, List.set_cons_zero, List.set_cons_succ])
  intro p11_1 W1 n_s11 hO h_
  have ne_s11_p : Value.ownBlock (.slice (some ⟨p11_1, 0, none⟩) 1 1) ≠ some p := fun e_ => (Nat.ne_of_lt (Nat.lt_of_lt_of_le (blk_lt k_p) n_s11)) (Option.some.inj e_).symm
  have dj_b_s11 : ∀ x, (Value.ownBlock v) = some x → Value.ownBlock (.slice (some ⟨p11_1, 0, none⟩) 1 1) ≠ some x := dj_new (Own.lt ow_b) n_s11
  have fr_s11 : Fr (Value.ownBlock (.slice (some ⟨p11_1, 0, none⟩) 1 1)) w.heap.size (p :: v.ownBlock.toList) := fr_new (Nat.le_trans sz n_s11)
  replace k_p := blk_off k_p hO nm0
  replace ow_b := Own.off ow_b hO f0
  replace off0 := off0.step hO i0
  replace sz := off0.size
  have ow_s11 : Own W1 (.slice (some ⟨p11_1, 0, none⟩) 1 1) [c] := own_blk h_ (by rfl) (by show 1 ≤ maxLen; decide)
  clear hO h_ n_s11
  refine wpL_append (xs := l) (ys := [c]) (by rfl) rfl rfl rfl ow_b (Own.sl ow_s11) (by first | omega | (simp only [List.length_append, List.length_cons, List.length_nil]; omega)) ?_
  (try simp only [Act.put, List.setIfInBounds_toArray, List.set_cons_zero, List.set_cons_succ])
  intro v12_2 W2 ow_a12 hO at_a12 nil_a12
  clear nil_a12
  have ne_a12_p := own_ne at_a12 ne_b_p (blk_lt k_p)
  have dj_a12_s11 := own_dj at_a12 dj_b_s11 (Own.lt ow_s11)
  have fr_a12 := own_fr at_a12 fr_b sz
  replace k_p := blk_off k_p hO (nmo ne_b_p)
  replace ow_s11 := Own.off ow_s11 hO (fo dj_b_s11)
  replace off0 := off0.step hO (io fr_b)
  replace sz := off0.size
  clear hO at_a12
  (refine wpL_val (v := ?_) (by rfl) ?_ ?_; rotate_left 1; (focus (go_simp; first | done | with_reducible rfl)))
  (try simp only [Act.put, List.setIfInBounds_toArray, List.set_cons_zero, List.set_cons_succ])
  (refine wpL_val (v := ?_) (by rfl) ?_ ?_; rotate_left 1; (focus (go_simp; first | done | with_reducible rfl)))
  (try simp only [Act.put, List.setIfInBounds_toArray, List.set_cons_zero, List.set_cons_succ])
  refine wpL_put1 (v := v12_2) (own_cells ow_a12) (by rfl) rfl rfl rfl k_p (by show 0 < 2; decide) (by kernel_rfl) ?_
  (try simp only [Act.put, List.setIfInBounds_toArray, List.set_cons_zero, List.set_cons_succ])
  intro W3 hO h_
  replace k_p : Blk W3 p #[v12_2, .bool big] 31 := h_
  clear h_
  replace ow_s11 := Own.off ow_s11 hO (f1 ne_s11_p)
  replace ow_a12 := Own.off ow_a12 hO (f1 ne_a12_p)
  replace off0 := off0.step hO (i1 fb_p)
  replace sz := off0.size
  clear hO
  refine wpL_nil ?_
  go_wp2
  exact bodyPost_end (v := .tuple #[]) (by simp only [results, Try.results6]; go_simp) rfl ⟨rfl, _, ⟨k_p, ow_a12⟩, off0, fr_cons fr_a12 ne_a12_p⟩
set_option maxHeartbeats 4000000 in
theorem wbyte_out (p : Nat) (n : Int) (hn : n < 0 ∨ 255 < n) (v : Value) (l : List UInt8) (big : Bool) (w : World) (hwr : Wr w p v l big) :
    Calls Try.prog 6 #[.pointer (some ⟨p, 0, none⟩), .int .i64 n] w fun e w' => e = .returned (.tuple #[]) ∧ ∃ v', WrTo w p v l true v' w' := by
  have off0 : Off (p :: v.ownBlock.toList) w w := Off.refl _ _
  have sz := off0.size
  obtain ⟨k_p, ow_b⟩ := hwr
  have ne_b_p := ow_b.ne_blk k_p (by decide)
  have fb_p : Fb p w.heap.size (p :: v.ownBlock.toList) := fun _ => by simp
  have fr_b : Fr (Value.ownBlock v) w.heap.size (p :: v.ownBlock.toList) := fun x hx _ => by simp [hx]
  go_enter Try.func6, Try.ntmps6
  by_cases hx : n < 0
  · have _f := hx
    go_upto_region 3 with fail
    refine wp_region_lit ?_
    (refine wpL_val (v := ?_) (by rfl) ?_ ?_; rotate_left 1; (focus (go_simp; first | done | with_reducible rfl)))
    (try simp only [Act.put, List.setIfInBounds_toArray, List.set_cons_zero, List.set_cons_succ])
    (refine wpL_val (v := ?_) (by rfl) ?_ ?_; rotate_left 1; (focus (go_simp; first | done | with_reducible rfl)))
    (try simp only [Act.put, List.setIfInBounds_toArray, List.set_cons_zero, List.set_cons_succ])
    (refine wpL_val (v := ?_) (by rfl) ?_ ?_; rotate_left 1; (focus (go_simp; first | done | with_reducible rfl)))
    (try simp only [Act.put, List.setIfInBounds_toArray, List.set_cons_zero, List.set_cons_succ])
    refine wpL_put1 (v := .bool true) ⟨rfl, rfl⟩ (by rfl) rfl rfl rfl k_p (by show 1 < 2; decide) (by kernel_rfl) ?_
    (try simp only [Act.put, List.setIfInBounds_toArray, List.set_cons_zero, List.set_cons_succ])
    intro W1 hO h_
    replace k_p : Blk W1 p #[v, .bool true] 31 := h_
    clear h_
    replace ow_b := Own.off ow_b hO (f1 ne_b_p)
    replace off0 := off0.step hO (i1 fb_p)
    replace sz := off0.size
    clear hO
    refine wpL_nil ?_
    go_wp2
    exact bodyPost_end (v := .tuple #[]) (by simp only [results, Try.results6]; go_simp) rfl ⟨rfl, _, ⟨k_p, ow_b⟩, off0, fr_cons fr_b ne_b_p⟩
  · have _f := hx
    have hy : 255 < n := hn.resolve_left hx
    go_upto_region 3 with fail
    refine wp_region_lit ?_
    (refine wpL_val (v := ?_) (by rfl) ?_ ?_; rotate_left 1; (focus (go_simp; first | done | with_reducible rfl)))
    (try simp only [Act.put, List.setIfInBounds_toArray, List.set_cons_zero, List.set_cons_succ])
    (refine wpL_val (v := ?_) (by rfl) ?_ ?_; rotate_left 1; (focus (go_simp; first | done | with_reducible rfl)))
    (try simp only [Act.put, List.setIfInBounds_toArray, List.set_cons_zero, List.set_cons_succ])
    (refine wpL_val (v := ?_) (by rfl) ?_ ?_; rotate_left 1; (focus (go_simp; first | done | with_reducible rfl)))
    (try simp only [Act.put, List.setIfInBounds_toArray, List.set_cons_zero, List.set_cons_succ])
    refine wpL_put1 (v := .bool true) ⟨rfl, rfl⟩ (by rfl) rfl rfl rfl k_p (by show 1 < 2; decide) (by kernel_rfl) ?_
    (try simp only [Act.put, List.setIfInBounds_toArray, List.set_cons_zero, List.set_cons_succ])
    intro W1 hO h_
    replace k_p : Blk W1 p #[v, .bool true] 31 := h_
    clear h_
    replace ow_b := Own.off ow_b hO (f1 ne_b_p)
    replace off0 := off0.step hO (i1 fb_p)
    replace sz := off0.size
    clear hO
    refine wpL_nil ?_
    go_wp2
    exact bodyPost_end (v := .tuple #[]) (by simp only [results, Try.results6]; go_simp) rfl ⟨rfl, _, ⟨k_p, ow_b⟩, off0, fr_cons fr_b ne_b_p⟩
set_option maxHeartbeats 4000000 in
theorem wbyte_nil (n : Int) (w : World) :
    Calls Try.prog 6 #[.pointer none, .int .i64 n] w fun e w' => e = .returned (.tuple #[]) ∧ w' = w := by
  have off0 : Off [] w w := Off.refl _ _
  have sz := off0.size
  go_enter Try.func6, Try.ntmps6
  go_wp2
  exact bodyPost_end (v := .tuple #[]) (by simp only [results, Try.results6]; go_simp) rfl ⟨rfl, rfl⟩
end Go.Proofs.Yteniajdmmffamaa
