/- codec's Writer: a flag, a number, a sum, a text, all bytes. Conditions: memory holds what is written. -/
import Derived.Test.YteniajdmmffamaaCdA
import Derived.Test.YteniajdmmffamaaTx
namespace Go.Proofs.Yteniajdmmffamaa
set_option linter.unusedSimpArgs false
set_option linter.unusedVariables false
open Go.RowKit

/-- the byte of a number -/
def u8 (n : Nat) : UInt8 := UInt8.ofNat n
theorem u8_nat (n : Nat) : (u8 n).toNat = n % 256 := UInt8.toNat_ofNat'
theorem wbyte_c {p : Nat} {n : Int} {v : Value} {l : List UInt8} {big : Bool} {w : World} (hwr : Wr w p v l big) (hl : l.length < 140737488355328) :
    Calls Try.prog 6 #[.pointer (some ⟨p, 0, none⟩), .int .i64 n] w fun e w' => e = .returned (.tuple #[]) ∧ ∃ v', WrTo w p v (if 0 ≤ n ∧ n ≤ 255 then l ++ [u8 n.toNat] else l) (big || !decide (0 ≤ n ∧ n ≤ 255)) v' w' := by
  by_cases h : 0 ≤ n ∧ n ≤ 255
  · have := wbyte_in p (u8 n.toNat) v l big w hwr hl
    have e : ((u8 n.toNat).toNat : Int) = n := by rw [u8_nat]; omega
    rw [e] at this
    rw [if_pos h, decide_eq_true h, Bool.not_true, Bool.or_false]
    exact this
  · rw [if_neg h, decide_eq_false h, Bool.not_false, Bool.or_true]
    exact wbyte_out p n (by omega) v l big w hwr
theorem wbyte_n {p n : Nat} {v : Value} {l : List UInt8} {big : Bool} {w : World} (hn : n < 256) (hwr : Wr w p v l big) (hl : l.length < 140737488355328) :
    Calls Try.prog 6 #[.pointer (some ⟨p, 0, none⟩), .int .i64 (n : Int)] w fun e w' => e = .returned (.tuple #[]) ∧ ∃ v', WrTo w p v (l ++ [u8 n]) big v' w' := by
  have := wbyte_in p (u8 n) v l big w hwr hl
  have e : ((u8 n).toNat : Int) = n := by rw [u8_nat]; omega
  rw [e] at this
  exact this
/-- the eight bytes of a number, the highest first -/
def be8 (X : Nat) : List UInt8 := [u8 (X / 72057594037927936), u8 (X / 281474976710656), u8 (X / 1099511627776), u8 (X / 4294967296), u8 (X / 16777216), u8 (X / 65536), u8 (X / 256), u8 X]
theorem u8_mod (n : Nat) : u8 (n % 256) = u8 n := by
  apply UInt8.toNat_inj.1
  rw [u8_nat, u8_nat, Nat.mod_mod]
theorem u8_cast (n : Nat) : ((u8 n).toNat : Int) = (n : Int) % 256 := by rw [u8_nat]; rfl

set_option maxHeartbeats 4000000 in
theorem wflag_true (p : Nat) (v : Value) (l : List UInt8) (big : Bool) (w : World) (hwr : Wr w p v l big) (hl : l.length < 140737488355328) :
    Calls Try.prog 19 #[.pointer (some ⟨p, 0, none⟩), .bool true] w fun e w' => e = .returned (.tuple #[]) ∧ ∃ v', WrTo w p v (l ++ [u8 1]) big v' w' := by
  have off0 : Off (p :: v.ownBlock.toList) w w := Off.refl _ _
  have sz := off0.size
  obtain ⟨k_p, ow_b⟩ := hwr
  have ne_b_p := ow_b.ne_blk k_p (by decide)
  have fb_p : Fb p w.heap.size (p :: v.ownBlock.toList) := fun _ => by simp
  have fr_b : Fr (Value.ownBlock v) w.heap.size (p :: v.ownBlock.toList) := fun x hx _ => by simp [hx]
  go_enter Try.func19, Try.ntmps19
  go_upto_region 3 with fail
  refine wp_region_lit ?_
  (refine wpL_val (v := ?_) (by rfl) ?_ ?_; rotate_left 1; (focus (go_simp; first | done | with_reducible rfl)))
  (try simp only [Act.put, List.setIfInBounds_toArray, List.set_cons_zero, List.set_cons_succ])
  refine wpL_val (v := .int .i64 1) (by rfl) (by first | rfl | (go_simp; done) | (go_simp; with_reducible rfl) | (go_simp; omega)) ?_
  (try simp only [Act.put, List.setIfInBounds_toArray, List.set_cons_zero, List.set_cons_succ])
  refine wpL_callv (wbyte_n (n := 1) (by decide) ⟨k_p, ow_b⟩ (by omega)) (by rfl) rfl (by kernel_rfl) rfl ?_
  (try simp only [Act.put, List.setIfInBounds_toArray, List.set_cons_zero, List.set_cons_succ])
  rintro W1 ⟨v_b1, hto⟩
  have at_b1 := hto.fr
  have hO := hto.off
  have kk := hto.wr.1
  have ow_b1 := hto.wr.2
  clear hto
  have ne_b1_p := own_ne at_b1 ne_b_p (blk_lt k_p)
  have fr_b1 := own_fr at_b1 fr_b sz
  replace off0 := off0.step hO (ic fb_p (io fr_b))
  replace sz := off0.size
  replace k_p := kk
  have ne_b1_p := Own.ne_blk ow_b1 k_p (by decide)
  clear hO at_b1 kk
  refine wpL_nil ?_
  go_wp2
  exact bodyPost_end (v := .tuple #[]) (by simp only [results, Try.results19]; go_simp) rfl ⟨rfl, _, ⟨k_p, ow_b1⟩, off0, fr_cons fr_b1 ne_b1_p⟩
set_option maxHeartbeats 4000000 in
theorem wflag_false (p : Nat) (v : Value) (l : List UInt8) (big : Bool) (w : World) (hwr : Wr w p v l big) (hl : l.length < 140737488355328) :
    Calls Try.prog 19 #[.pointer (some ⟨p, 0, none⟩), .bool false] w fun e w' => e = .returned (.tuple #[]) ∧ ∃ v', WrTo w p v (l ++ [u8 0]) big v' w' := by
  have off0 : Off (p :: v.ownBlock.toList) w w := Off.refl _ _
  have sz := off0.size
  obtain ⟨k_p, ow_b⟩ := hwr
  have ne_b_p := ow_b.ne_blk k_p (by decide)
  have fb_p : Fb p w.heap.size (p :: v.ownBlock.toList) := fun _ => by simp
  have fr_b : Fr (Value.ownBlock v) w.heap.size (p :: v.ownBlock.toList) := fun x hx _ => by simp [hx]
  go_enter Try.func19, Try.ntmps19
  go_upto_region 3 with fail
  refine wp_region_lit ?_
  (refine wpL_val (v := ?_) (by rfl) ?_ ?_; rotate_left 1; (focus (go_simp; first | done | with_reducible rfl)))
  (try simp only [Act.put, List.setIfInBounds_toArray, List.set_cons_zero, List.set_cons_succ])
  refine wpL_val (v := .int .i64 0) (by rfl) (by first | rfl | (go_simp; done) | (go_simp; with_reducible rfl) | (go_simp; omega)) ?_
  (try simp only [Act.put, List.setIfInBounds_toArray, List.set_cons_zero, List.set_cons_succ])
  refine wpL_callv (wbyte_n (n := 0) (by decide) ⟨k_p, ow_b⟩ (by omega)) (by rfl) rfl (by kernel_rfl) rfl ?_
  (try simp only [Act.put, List.setIfInBounds_toArray, List.set_cons_zero, List.set_cons_succ])
  rintro W1 ⟨v_b1, hto⟩
  have at_b1 := hto.fr
  have hO := hto.off
  have kk := hto.wr.1
  have ow_b1 := hto.wr.2
  clear hto
  have ne_b1_p := own_ne at_b1 ne_b_p (blk_lt k_p)
  have fr_b1 := own_fr at_b1 fr_b sz
  replace off0 := off0.step hO (ic fb_p (io fr_b))
  replace sz := off0.size
  replace k_p := kk
  have ne_b1_p := Own.ne_blk ow_b1 k_p (by decide)
  clear hO at_b1 kk
  refine wpL_nil ?_
  go_wp2
  exact bodyPost_end (v := .tuple #[]) (by simp only [results, Try.results19]; go_simp) rfl ⟨rfl, _, ⟨k_p, ow_b1⟩, off0, fr_cons fr_b1 ne_b1_p⟩
set_option maxHeartbeats 4000000 in
theorem wbytes_true (p : Nat) (v : Value) (l : List UInt8) (w : World) (hwr : Wr w p v l true) (hl : l.length ≤ 140737488355328) :
    Calls Try.prog 8 #[.pointer (some ⟨p, 0, none⟩)] w fun e w' => ∃ u, e = .returned (.tuple #[u, .int .i64 5]) ∧ NewB w l u w' := by
  have off0 : Off [] w w := Off.refl _ _
  have sz := off0.size
  obtain ⟨k_p, ow_b⟩ := hwr
  have ne_b_p := ow_b.ne_blk k_p (by decide)
  go_enter Try.func8, Try.ntmps8
  go_upto_region 3 with fail
  refine wp_region_lit ?_
  (refine wpL_val (v := ?_) (by rfl) ?_ ?_; rotate_left 1; (focus (go_simp; first | done | with_reducible rfl)))
  (try simp only [Act.put, List.setIfInBounds_toArray, List.set_cons_zero, List.set_cons_succ])
  (refine wpL_val (v := ?_) (by rfl) ?_ ?_; rotate_left 1; (focus (go_simp; first | done | with_reducible rfl)))
  (try simp only [Act.put, List.setIfInBounds_toArray, List.set_cons_zero, List.set_cons_succ])
  (refine wpL_val (v := ?_) (by rfl) ?_ ?_; rotate_left 1; (focus (go_simp; first | done | with_reducible rfl)))
  (try simp only [Act.put, List.setIfInBounds_toArray, List.set_cons_zero, List.set_cons_succ])
  refine wpL_get (v := .bool true) (by rfl) rfl rfl k_p (by rfl) (by kernel_rfl) ?_
  (try simp only [Act.put, List.setIfInBounds_toArray, List.set_cons_zero, List.set_cons_succ])
  refine wpL_val (v := .bool true) (by rfl) (by first | rfl | (go_simp; done) | (go_simp; with_reducible rfl) | (go_simp; omega)) ?_
  (try simp only [Act.put, List.setIfInBounds_toArray, List.set_cons_zero, List.set_cons_succ])
  refine wpL_nil ?_
  go_upto_region 4 with fail
  refine wp_region_lit ?_
  (refine wpL_val (v := ?_) (by rfl) ?_ ?_; rotate_left 1; (focus (go_simp; first | done | with_reducible rfl)))
  (try simp only [Act.put, List.setIfInBounds_toArray, List.set_cons_zero, List.set_cons_succ])
  (refine wpL_val (v := ?_) (by rfl) ?_ ?_; rotate_left 1; (focus (go_simp; first | done | with_reducible rfl)))
  (try simp only [Act.put, List.setIfInBounds_toArray, List.set_cons_zero, List.set_cons_succ])
  (refine wpL_val (v := ?_) (by rfl) ?_ ?_; rotate_left 1; (focus (go_simp; first | done | with_reducible rfl)))
  (try simp only [Act.put, List.setIfInBounds_toArray, List.set_cons_zero, List.set_cons_succ])
  refine wpL_get (v := v) (by rfl) rfl rfl k_p (by rfl) (by kernel_rfl) ?_
  (try simp only [Act.put, List.setIfInBounds_toArray, List.set_cons_zero, List.set_cons_succ])
  refine wpL_call (R := fun v W => NewB w l v W) ((clone_c (Own.sl ow_b) (by omega)).mono fun _ _ h => h) (by rfl) rfl (by kernel_rfl) rfl ?_
  (try simp only [Act.put, List.setIfInBounds_toArray, List.set_cons_zero, List.set_cons_succ])
  rintro v_c1 W1 hnb
  have hO := hnb.off
  have ow_c1 := hnb.own
  have at_c1 : Of (Value.ownBlock v_c1) none w.heap.size := hnb.fr
  clear hnb
  have ne_c1_p := own_ne at_c1 (fun h => by cases h) (blk_lt k_p)
  have dj_c1_b := own_dj at_c1 (fun x h => by cases h) (Own.lt ow_b)
  have fr_c1 : Fr (Value.ownBlock v_c1) w.heap.size [] := own_fr at_c1 fr_none sz
  replace k_p := blk_off k_p hO nm0
  replace ow_b := Own.off ow_b hO f0
  replace off0 := off0.step hO i0
  replace sz := off0.size
  clear hO at_c1
  (refine wpL_val (v := ?_) (by rfl) ?_ ?_; rotate_left 1; (focus (go_simp; first | done | with_reducible rfl)))
  (try simp only [Act.put, List.setIfInBounds_toArray, List.set_cons_zero, List.set_cons_succ])
  refine wpL_val (v := .int .i64 5) (by rfl) (by first | rfl | (go_simp; done) | (go_simp; with_reducible rfl) | (go_simp; omega)) ?_
  (try simp only [Act.put, List.setIfInBounds_toArray, List.set_cons_zero, List.set_cons_succ])
  refine wpL_nil ?_
  go_wp2
  refine bodyPost_ret (v := .tuple #[v_c1, .int .i64 5]) (by simp only [results, Try.results8]; go_simp) rfl ⟨_, rfl, ow_c1, off0, fr_c1⟩
set_option maxHeartbeats 4000000 in
theorem wbytes_false (p : Nat) (v : Value) (l : List UInt8) (w : World) (hwr : Wr w p v l false) (hl : l.length ≤ 140737488355328) :
    Calls Try.prog 8 #[.pointer (some ⟨p, 0, none⟩)] w fun e w' => ∃ u, e = .returned (.tuple #[u, .int .i64 0]) ∧ NewB w l u w' := by
  have off0 : Off [] w w := Off.refl _ _
  have sz := off0.size
  obtain ⟨k_p, ow_b⟩ := hwr
  have ne_b_p := ow_b.ne_blk k_p (by decide)
  go_enter Try.func8, Try.ntmps8
  go_upto_region 3 with fail
  refine wp_region_lit ?_
  (refine wpL_val (v := ?_) (by rfl) ?_ ?_; rotate_left 1; (focus (go_simp; first | done | with_reducible rfl)))
  (try simp only [Act.put, List.setIfInBounds_toArray, List.set_cons_zero, List.set_cons_succ])
  (refine wpL_val (v := ?_) (by rfl) ?_ ?_; rotate_left 1; (focus (go_simp; first | done | with_reducible rfl)))
  (try simp only [Act.put, List.setIfInBounds_toArray, List.set_cons_zero, List.set_cons_succ])
  (refine wpL_val (v := ?_) (by rfl) ?_ ?_; rotate_left 1; (focus (go_simp; first | done | with_reducible rfl)))
  (try simp only [Act.put, List.setIfInBounds_toArray, List.set_cons_zero, List.set_cons_succ])
  refine wpL_get (v := .bool false) (by rfl) rfl rfl k_p (by rfl) (by kernel_rfl) ?_
  (try simp only [Act.put, List.setIfInBounds_toArray, List.set_cons_zero, List.set_cons_succ])
  refine wpL_val (v := .bool false) (by rfl) (by first | rfl | (go_simp; done) | (go_simp; with_reducible rfl) | (go_simp; omega)) ?_
  (try simp only [Act.put, List.setIfInBounds_toArray, List.set_cons_zero, List.set_cons_succ])
  refine wpL_nil ?_
  go_upto_region 5 with fail
  refine wp_region_lit ?_
  (refine wpL_val (v := ?_) (by rfl) ?_ ?_; rotate_left 1; (focus (go_simp; first | done | with_reducible rfl)))
  (try simp only [Act.put, List.setIfInBounds_toArray, List.set_cons_zero, List.set_cons_succ])
  (refine wpL_val (v := ?_) (by rfl) ?_ ?_; rotate_left 1; (focus (go_simp; first | done | with_reducible rfl)))
  (try simp only [Act.put, List.setIfInBounds_toArray, List.set_cons_zero, List.set_cons_succ])
  (refine wpL_val (v := ?_) (by rfl) ?_ ?_; rotate_left 1; (focus (go_simp; first | done | with_reducible rfl)))
  (try simp only [Act.put, List.setIfInBounds_toArray, List.set_cons_zero, List.set_cons_succ])
  refine wpL_get (v := v) (by rfl) rfl rfl k_p (by rfl) (by kernel_rfl) ?_
  (try simp only [Act.put, List.setIfInBounds_toArray, List.set_cons_zero, List.set_cons_succ])
  refine wpL_call (R := fun v W => NewB w l v W) ((clone_c (Own.sl ow_b) (by omega)).mono fun _ _ h => h) (by rfl) rfl (by kernel_rfl) rfl ?_
  (try simp only [Act.put, List.setIfInBounds_toArray, List.set_cons_zero, List.set_cons_succ])
  rintro v_c1 W1 hnb
  have hO := hnb.off
  have ow_c1 := hnb.own
  have at_c1 : Of (Value.ownBlock v_c1) none w.heap.size := hnb.fr
  clear hnb
  have ne_c1_p := own_ne at_c1 (fun h => by cases h) (blk_lt k_p)
  have dj_c1_b := own_dj at_c1 (fun x h => by cases h) (Own.lt ow_b)
  have fr_c1 : Fr (Value.ownBlock v_c1) w.heap.size [] := own_fr at_c1 fr_none sz
  replace k_p := blk_off k_p hO nm0
  replace ow_b := Own.off ow_b hO f0
  replace off0 := off0.step hO i0
  replace sz := off0.size
  clear hO at_c1
  (refine wpL_val (v := ?_) (by rfl) ?_ ?_; rotate_left 1; (focus (go_simp; first | done | with_reducible rfl)))
  (try simp only [Act.put, List.setIfInBounds_toArray, List.set_cons_zero, List.set_cons_succ])
  refine wpL_val (v := .int .i64 0) (by rfl) (by first | rfl | (go_simp; done) | (go_simp; with_reducible rfl) | (go_simp; omega)) ?_
  (try simp only [Act.put, List.setIfInBounds_toArray, List.set_cons_zero, List.set_cons_succ])
  refine wpL_nil ?_
  go_wp2
  refine bodyPost_ret (v := .tuple #[v_c1, .int .i64 0]) (by simp only [results, Try.results8]; go_simp) rfl ⟨_, rfl, ow_c1, off0, fr_c1⟩
set_option maxHeartbeats 4000000 in
theorem wnum_c (n : Int) (X : Nat) (hx : n % 18446744073709551616 = (X : Int)) (p : Nat) (v : Value) (l : List UInt8) (big : Bool) (w : World) (hwr : Wr w p v l big) (hl : l.length < 140737488355320) :
    Calls Try.prog 20 #[.pointer (some ⟨p, 0, none⟩), .int .i64 n] w fun e w' => e = .returned (.tuple #[]) ∧ ∃ v', WrTo w p v (l ++ be8 X) big v' w' := by
  have hx2 : IntKind.wrap .u64 n = (X : Int) := by rw [IntKind.wrap_u64]; exact hx
  have x0 : (0 : Int) ≤ (X : Int) := Int.natCast_nonneg _
  have x1 : (X : Int) < 18446744073709551616 := by omega
  have off0 : Off (p :: v.ownBlock.toList) w w := Off.refl _ _
  have sz := off0.size
  obtain ⟨k_p, ow_b⟩ := hwr
  have ne_b_p := ow_b.ne_blk k_p (by decide)
  have fb_p : Fb p w.heap.size (p :: v.ownBlock.toList) := fun _ => by simp
  have fr_b : Fr (Value.ownBlock v) w.heap.size (p :: v.ownBlock.toList) := fun x hx _ => by simp [hx]
  go_enter Try.func20, Try.ntmps20
  go_wp2_with fail
  refine wp_loop_rounds 9 ?_
  rw [rounds_succ]
  go_upto_region 3 with fail
  refine wp_region_lit ?_
  (refine wpL_val (v := ?_) (by rfl) ?_ ?_; rotate_left 1; (focus (go_simp; first | done | with_reducible rfl)))
  (try simp only [Act.put, List.setIfInBounds_toArray, List.set_cons_zero, List.set_cons_succ])
  (refine wpL_val (v := ?_) (by rfl) ?_ ?_; rotate_left 1; (focus (go_simp; first | done | with_reducible rfl)))
  (try simp only [Act.put, List.setIfInBounds_toArray, List.set_cons_zero, List.set_cons_succ])
  refine wpL_val (v := .int .u64 (X : Int)) (by rfl) (by go_simp; (try simp only [hx2])) ?_
  (try simp only [Act.put, List.setIfInBounds_toArray, List.set_cons_zero, List.set_cons_succ])
  refine wpL_val (v := .int .i64 7) (by rfl) (by first | rfl | (go_simp; done) | (go_simp; with_reducible rfl) | (go_simp; omega)) ?_
  (try simp only [Act.put, List.setIfInBounds_toArray, List.set_cons_zero, List.set_cons_succ])
  refine wpL_val (v := .int .i64 56) (by rfl) (by first | rfl | (go_simp; done) | (go_simp; with_reducible rfl) | (go_simp; omega)) ?_
  (try simp only [Act.put, List.setIfInBounds_toArray, List.set_cons_zero, List.set_cons_succ])
  (refine wpL_val (v := ?_) (by rfl) ?_ ?_; rotate_left 1; (focus (go_simp; first | done | with_reducible rfl)))
  (try simp only [Act.put, List.setIfInBounds_toArray, List.set_cons_zero, List.set_cons_succ])
  refine wpL_val (v := .int .u8 ((X / 72057594037927936 % 256 : Nat) : Int)) (by rfl) (by go_simp; (try simp only [IntKind.wrap_u8, IntKind.wrap_i64]); (try omega)) ?_
  (try simp only [Act.put, List.setIfInBounds_toArray, List.set_cons_zero, List.set_cons_succ])
  refine wpL_val (v := .int .i64 ((X / 72057594037927936 % 256 : Nat) : Int)) (by rfl) (by go_simp; (try simp only [IntKind.wrap_u8, IntKind.wrap_i64]); (try omega)) ?_
  (try simp only [Act.put, List.setIfInBounds_toArray, List.set_cons_zero, List.set_cons_succ])
  refine wpL_callv (wbyte_n (n := X / 72057594037927936 % 256) (by omega) ⟨k_p, ow_b⟩ (by first | omega | (simp only [List.length_append, List.length_cons, List.length_nil]; omega))) (by rfl) rfl (by kernel_rfl) rfl ?_
  (try simp only [Act.put, List.setIfInBounds_toArray, List.set_cons_zero, List.set_cons_succ])
  rintro W1 ⟨v_b1, hto⟩
  have at_b1 := hto.fr
  have hO := hto.off
  have kk := hto.wr.1
  have ow_b1 := hto.wr.2
  clear hto
  have ne_b1_p := own_ne at_b1 ne_b_p (blk_lt k_p)
  have fr_b1 := own_fr at_b1 fr_b sz
  replace off0 := off0.step hO (ic fb_p (io fr_b))
  replace sz := off0.size
  replace k_p := kk
  have ne_b1_p := Own.ne_blk ow_b1 k_p (by decide)
  clear hO at_b1 kk
  refine wpL_nil ?_
  go_wp2_with fail
  rw [rounds_succ]
  go_upto_region 3 with fail
  refine wp_region_lit ?_
  (refine wpL_val (v := ?_) (by rfl) ?_ ?_; rotate_left 1; (focus (go_simp; first | done | with_reducible rfl)))
  (try simp only [Act.put, List.setIfInBounds_toArray, List.set_cons_zero, List.set_cons_succ])
  (refine wpL_val (v := ?_) (by rfl) ?_ ?_; rotate_left 1; (focus (go_simp; first | done | with_reducible rfl)))
  (try simp only [Act.put, List.setIfInBounds_toArray, List.set_cons_zero, List.set_cons_succ])
  refine wpL_val (v := .int .u64 (X : Int)) (by rfl) (by go_simp; (try simp only [hx2])) ?_
  (try simp only [Act.put, List.setIfInBounds_toArray, List.set_cons_zero, List.set_cons_succ])
  refine wpL_val (v := .int .i64 6) (by rfl) (by first | rfl | (go_simp; done) | (go_simp; with_reducible rfl) | (go_simp; omega)) ?_
  (try simp only [Act.put, List.setIfInBounds_toArray, List.set_cons_zero, List.set_cons_succ])
  refine wpL_val (v := .int .i64 48) (by rfl) (by first | rfl | (go_simp; done) | (go_simp; with_reducible rfl) | (go_simp; omega)) ?_
  (try simp only [Act.put, List.setIfInBounds_toArray, List.set_cons_zero, List.set_cons_succ])
  (refine wpL_val (v := ?_) (by rfl) ?_ ?_; rotate_left 1; (focus (go_simp; first | done | with_reducible rfl)))
  (try simp only [Act.put, List.setIfInBounds_toArray, List.set_cons_zero, List.set_cons_succ])
  refine wpL_val (v := .int .u8 ((X / 281474976710656 % 256 : Nat) : Int)) (by rfl) (by go_simp; (try simp only [IntKind.wrap_u8, IntKind.wrap_i64]); (try omega)) ?_
  (try simp only [Act.put, List.setIfInBounds_toArray, List.set_cons_zero, List.set_cons_succ])
  refine wpL_val (v := .int .i64 ((X / 281474976710656 % 256 : Nat) : Int)) (by rfl) (by go_simp; (try simp only [IntKind.wrap_u8, IntKind.wrap_i64]); (try omega)) ?_
  (try simp only [Act.put, List.setIfInBounds_toArray, List.set_cons_zero, List.set_cons_succ])
  refine wpL_callv (wbyte_n (n := X / 281474976710656 % 256) (by omega) ⟨k_p, ow_b1⟩ (by first | omega | (simp only [List.length_append, List.length_cons, List.length_nil]; omega))) (by rfl) rfl (by kernel_rfl) rfl ?_
  (try simp only [Act.put, List.setIfInBounds_toArray, List.set_cons_zero, List.set_cons_succ])
  rintro W2 ⟨v_b2, hto⟩
  have at_b2 := hto.fr
  have hO := hto.off
  have kk := hto.wr.1
  have ow_b2 := hto.wr.2
  clear hto
  have ne_b2_p := own_ne at_b2 ne_b1_p (blk_lt k_p)
  have fr_b2 := own_fr at_b2 fr_b1 sz
  replace off0 := off0.step hO (ic fb_p (io fr_b1))
  replace sz := off0.size
  replace k_p := kk
  have ne_b2_p := Own.ne_blk ow_b2 k_p (by decide)
  clear hO at_b2 kk
  refine wpL_nil ?_
  go_wp2_with fail
  rw [rounds_succ]
  go_upto_region 3 with fail
  refine wp_region_lit ?_
  (refine wpL_val (v := ?_) (by rfl) ?_ ?_; rotate_left 1; (focus (go_simp; first | done | with_reducible rfl)))
  (try simp only [Act.put, List.setIfInBounds_toArray, List.set_cons_zero, List.set_cons_succ])
  (refine wpL_val (v := ?_) (by rfl) ?_ ?_; rotate_left 1; (focus (go_simp; first | done | with_reducible rfl)))
  (try simp only [Act.put, List.setIfInBounds_toArray, List.set_cons_zero, List.set_cons_succ])
  refine wpL_val (v := .int .u64 (X : Int)) (by rfl) (by go_simp; (try simp only [hx2])) ?_
  (try simp only [Act.put, List.setIfInBounds_toArray, List.set_cons_zero, List.set_cons_succ])
  refine wpL_val (v := .int .i64 5) (by rfl) (by first | rfl | (go_simp; done) | (go_simp; with_reducible rfl) | (go_simp; omega)) ?_
  (try simp only [Act.put, List.setIfInBounds_toArray, List.set_cons_zero, List.set_cons_succ])
  refine wpL_val (v := .int .i64 40) (by rfl) (by first | rfl | (go_simp; done) | (go_simp; with_reducible rfl) | (go_simp; omega)) ?_
  (try simp only [Act.put, List.setIfInBounds_toArray, List.set_cons_zero, List.set_cons_succ])
  (refine wpL_val (v := ?_) (by rfl) ?_ ?_; rotate_left 1; (focus (go_simp; first | done | with_reducible rfl)))
  (try simp only [Act.put, List.setIfInBounds_toArray, List.set_cons_zero, List.set_cons_succ])
  refine wpL_val (v := .int .u8 ((X / 1099511627776 % 256 : Nat) : Int)) (by rfl) (by go_simp; (try simp only [IntKind.wrap_u8, IntKind.wrap_i64]); (try omega)) ?_
  (try simp only [Act.put, List.setIfInBounds_toArray, List.set_cons_zero, List.set_cons_succ])
  refine wpL_val (v := .int .i64 ((X / 1099511627776 % 256 : Nat) : Int)) (by rfl) (by go_simp; (try simp only [IntKind.wrap_u8, IntKind.wrap_i64]); (try omega)) ?_
  (try simp only [Act.put, List.setIfInBounds_toArray, List.set_cons_zero, List.set_cons_succ])
  refine wpL_callv (wbyte_n (n := X / 1099511627776 % 256) (by omega) ⟨k_p, ow_b2⟩ (by first | omega | (simp only [List.length_append, List.length_cons, List.length_nil]; omega))) (by rfl) rfl (by kernel_rfl) rfl ?_
  (try simp only [Act.put, List.setIfInBounds_toArray, List.set_cons_zero, List.set_cons_succ])
  rintro W3 ⟨v_b3, hto⟩
  have at_b3 := hto.fr
  have hO := hto.off
  have kk := hto.wr.1
  have ow_b3 := hto.wr.2
  clear hto
  have ne_b3_p := own_ne at_b3 ne_b2_p (blk_lt k_p)
  have fr_b3 := own_fr at_b3 fr_b2 sz
  replace off0 := off0.step hO (ic fb_p (io fr_b2))
  replace sz := off0.size
  replace k_p := kk
  have ne_b3_p := Own.ne_blk ow_b3 k_p (by decide)
  clear hO at_b3 kk
  refine wpL_nil ?_
  go_wp2_with fail
  rw [rounds_succ]
  go_upto_region 3 with fail
  refine wp_region_lit ?_
  (refine wpL_val (v := ?_) (by rfl) ?_ ?_; rotate_left 1; (focus (go_simp; first | done | with_reducible rfl)))
  (try simp only [Act.put, List.setIfInBounds_toArray, List.set_cons_zero, List.set_cons_succ])
  (refine wpL_val (v := ?_) (by rfl) ?_ ?_; rotate_left 1; (focus (go_simp; first | done | with_reducible rfl)))
  (try simp only [Act.put, List.setIfInBounds_toArray, List.set_cons_zero, List.set_cons_succ])
  refine wpL_val (v := .int .u64 (X : Int)) (by rfl) (by go_simp; (try simp only [hx2])) ?_
  (try simp only [Act.put, List.setIfInBounds_toArray, List.set_cons_zero, List.set_cons_succ])
  refine wpL_val (v := .int .i64 4) (by rfl) (by first | rfl | (go_simp; done) | (go_simp; with_reducible rfl) | (go_simp; omega)) ?_
  (try simp only [Act.put, List.setIfInBounds_toArray, List.set_cons_zero, List.set_cons_succ])
  refine wpL_val (v := .int .i64 32) (by rfl) (by first | rfl | (go_simp; done) | (go_simp; with_reducible rfl) | (go_simp; omega)) ?_
  (try simp only [Act.put, List.setIfInBounds_toArray, List.set_cons_zero, List.set_cons_succ])
  (refine wpL_val (v := ?_) (by rfl) ?_ ?_; rotate_left 1; (focus (go_simp; first | done | with_reducible rfl)))
  (try simp only [Act.put, List.setIfInBounds_toArray, List.set_cons_zero, List.set_cons_succ])
  refine wpL_val (v := .int .u8 ((X / 4294967296 % 256 : Nat) : Int)) (by rfl) (by go_simp; (try simp only [IntKind.wrap_u8, IntKind.wrap_i64]); (try omega)) ?_
  (try simp only [Act.put, List.setIfInBounds_toArray, List.set_cons_zero, List.set_cons_succ])
  refine wpL_val (v := .int .i64 ((X / 4294967296 % 256 : Nat) : Int)) (by rfl) (by go_simp; (try simp only [IntKind.wrap_u8, IntKind.wrap_i64]); (try omega)) ?_
  (try simp only [Act.put, List.setIfInBounds_toArray, List.set_cons_zero, List.set_cons_succ])
  refine wpL_callv (wbyte_n (n := X / 4294967296 % 256) (by omega) ⟨k_p, ow_b3⟩ (by first | omega | (simp only [List.length_append, List.length_cons, List.length_nil]; omega))) (by rfl) rfl (by kernel_rfl) rfl ?_
  (try simp only [Act.put, List.setIfInBounds_toArray, List.set_cons_zero, List.set_cons_succ])
  rintro W4 ⟨v_b4, hto⟩
  have at_b4 := hto.fr
  have hO := hto.off
  have kk := hto.wr.1
  have ow_b4 := hto.wr.2
  clear hto
  have ne_b4_p := own_ne at_b4 ne_b3_p (blk_lt k_p)
  have fr_b4 := own_fr at_b4 fr_b3 sz
  replace off0 := off0.step hO (ic fb_p (io fr_b3))
  replace sz := off0.size
  replace k_p := kk
  have ne_b4_p := Own.ne_blk ow_b4 k_p (by decide)
  clear hO at_b4 kk
  refine wpL_nil ?_
  go_wp2_with fail
  rw [rounds_succ]
  go_upto_region 3 with fail
  refine wp_region_lit ?_
  (refine wpL_val (v := ?_) (by rfl) ?_ ?_; rotate_left 1; (focus (go_simp; first | done | with_reducible rfl)))
  (try simp only [Act.put, List.setIfInBounds_toArray, List.set_cons_zero, List.set_cons_succ])
  (refine wpL_val (v := ?_) (by rfl) ?_ ?_; rotate_left 1; (focus (go_simp; first | done | with_reducible rfl)))
  (try simp only [Act.put, List.setIfInBounds_toArray, List.set_cons_zero, List.set_cons_succ])
  refine wpL_val (v := .int .u64 (X : Int)) (by rfl) (by go_simp; (try simp only [hx2])) ?_
  (try simp only [Act.put, List.setIfInBounds_toArray, List.set_cons_zero, List.set_cons_succ])
  refine wpL_val (v := .int .i64 3) (by rfl) (by first | rfl | (go_simp; done) | (go_simp; with_reducible rfl) | (go_simp; omega)) ?_
  (try simp only [Act.put, List.setIfInBounds_toArray, List.set_cons_zero, List.set_cons_succ])
  refine wpL_val (v := .int .i64 24) (by rfl) (by first | rfl | (go_simp; done) | (go_simp; with_reducible rfl) | (go_simp; omega)) ?_
  (try simp only [Act.put, List.setIfInBounds_toArray, List.set_cons_zero, List.set_cons_succ])
  (refine wpL_val (v := ?_) (by rfl) ?_ ?_; rotate_left 1; (focus (go_simp; first | done | with_reducible rfl)))
  (try simp only [Act.put, List.setIfInBounds_toArray, List.set_cons_zero, List.set_cons_succ])
  refine wpL_val (v := .int .u8 ((X / 16777216 % 256 : Nat) : Int)) (by rfl) (by go_simp; (try simp only [IntKind.wrap_u8, IntKind.wrap_i64]); (try omega)) ?_
  (try simp only [Act.put, List.setIfInBounds_toArray, List.set_cons_zero, List.set_cons_succ])
  refine wpL_val (v := .int .i64 ((X / 16777216 % 256 : Nat) : Int)) (by rfl) (by go_simp; (try simp only [IntKind.wrap_u8, IntKind.wrap_i64]); (try omega)) ?_
  (try simp only [Act.put, List.setIfInBounds_toArray, List.set_cons_zero, List.set_cons_succ])
  refine wpL_callv (wbyte_n (n := X / 16777216 % 256) (by omega) ⟨k_p, ow_b4⟩ (by first | omega | (simp only [List.length_append, List.length_cons, List.length_nil]; omega))) (by rfl) rfl (by kernel_rfl) rfl ?_
  (try simp only [Act.put, List.setIfInBounds_toArray, List.set_cons_zero, List.set_cons_succ])
  rintro W5 ⟨v_b5, hto⟩
  have at_b5 := hto.fr
  have hO := hto.off
  have kk := hto.wr.1
  have ow_b5 := hto.wr.2
  clear hto
  have ne_b5_p := own_ne at_b5 ne_b4_p (blk_lt k_p)
  have fr_b5 := own_fr at_b5 fr_b4 sz
  replace off0 := off0.step hO (ic fb_p (io fr_b4))
  replace sz := off0.size
  replace k_p := kk
  have ne_b5_p := Own.ne_blk ow_b5 k_p (by decide)
  clear hO at_b5 kk
  refine wpL_nil ?_
  go_wp2_with fail
  rw [rounds_succ]
  go_upto_region 3 with fail
  refine wp_region_lit ?_
  (refine wpL_val (v := ?_) (by rfl) ?_ ?_; rotate_left 1; (focus (go_simp; first | done | with_reducible rfl)))
  (try simp only [Act.put, List.setIfInBounds_toArray, List.set_cons_zero, List.set_cons_succ])
  (refine wpL_val (v := ?_) (by rfl) ?_ ?_; rotate_left 1; (focus (go_simp; first | done | with_reducible rfl)))
  (try simp only [Act.put, List.setIfInBounds_toArray, List.set_cons_zero, List.set_cons_succ])
  refine wpL_val (v := .int .u64 (X : Int)) (by rfl) (by go_simp; (try simp only [hx2])) ?_
  (try simp only [Act.put, List.setIfInBounds_toArray, List.set_cons_zero, List.set_cons_succ])
  refine wpL_val (v := .int .i64 2) (by rfl) (by first | rfl | (go_simp; done) | (go_simp; with_reducible rfl) | (go_simp; omega)) ?_
  (try simp only [Act.put, List.setIfInBounds_toArray, List.set_cons_zero, List.set_cons_succ])
  refine wpL_val (v := .int .i64 16) (by rfl) (by first | rfl | (go_simp; done) | (go_simp; with_reducible rfl) | (go_simp; omega)) ?_
  (try simp only [Act.put, List.setIfInBounds_toArray, List.set_cons_zero, List.set_cons_succ])
  (refine wpL_val (v := ?_) (by rfl) ?_ ?_; rotate_left 1; (focus (go_simp; first | done | with_reducible rfl)))
  (try simp only [Act.put, List.setIfInBounds_toArray, List.set_cons_zero, List.set_cons_succ])
  refine wpL_val (v := .int .u8 ((X / 65536 % 256 : Nat) : Int)) (by rfl) (by go_simp; (try simp only [IntKind.wrap_u8, IntKind.wrap_i64]); (try omega)) ?_
  (try simp only [Act.put, List.setIfInBounds_toArray, List.set_cons_zero, List.set_cons_succ])
  refine wpL_val (v := .int .i64 ((X / 65536 % 256 : Nat) : Int)) (by rfl) (by go_simp; (try simp only [IntKind.wrap_u8, IntKind.wrap_i64]); (try omega)) ?_
  (try simp only [Act.put, List.setIfInBounds_toArray, List.set_cons_zero, List.set_cons_succ])
  refine wpL_callv (wbyte_n (n := X / 65536 % 256) (by omega) ⟨k_p, ow_b5⟩ (by first | omega | (simp only [List.length_append, List.length_cons, List.length_nil]; omega))) (by rfl) rfl (by kernel_rfl) rfl ?_
  (try simp only [Act.put, List.setIfInBounds_toArray, List.set_cons_zero, List.set_cons_succ])
  rintro W6 ⟨v_b6, hto⟩
  have at_b6 := hto.fr
  have hO := hto.off
  have kk := hto.wr.1
  have ow_b6 := hto.wr.2
  clear hto
  have ne_b6_p := own_ne at_b6 ne_b5_p (blk_lt k_p)
  have fr_b6 := own_fr at_b6 fr_b5 sz
  replace off0 := off0.step hO (ic fb_p (io fr_b5))
  replace sz := off0.size
  replace k_p := kk
  have ne_b6_p := Own.ne_blk ow_b6 k_p (by decide)
  clear hO at_b6 kk
  refine wpL_nil ?_
  go_wp2_with fail
  rw [rounds_succ]
  go_upto_region 3 with fail
  refine wp_region_lit ?_
  (refine wpL_val (v := ?_) (by rfl) ?_ ?_; rotate_left 1; (focus (go_simp; first | done | with_reducible rfl)))
  (try simp only [Act.put, List.setIfInBounds_toArray, List.set_cons_zero, List.set_cons_succ])
  (refine wpL_val (v := ?_) (by rfl) ?_ ?_; rotate_left 1; (focus (go_simp; first | done | with_reducible rfl)))
  (try simp only [Act.put, List.setIfInBounds_toArray, List.set_cons_zero, List.set_cons_succ])
  refine wpL_val (v := .int .u64 (X : Int)) (by rfl) (by go_simp; (try simp only [hx2])) ?_
  (try simp only [Act.put, List.setIfInBounds_toArray, List.set_cons_zero, List.set_cons_succ])
  refine wpL_val (v := .int .i64 1) (by rfl) (by first | rfl | (go_simp; done) | (go_simp; with_reducible rfl) | (go_simp; omega)) ?_
  (try simp only [Act.put, List.setIfInBounds_toArray, List.set_cons_zero, List.set_cons_succ])
  refine wpL_val (v := .int .i64 8) (by rfl) (by first | rfl | (go_simp; done) | (go_simp; with_reducible rfl) | (go_simp; omega)) ?_
  (try simp only [Act.put, List.setIfInBounds_toArray, List.set_cons_zero, List.set_cons_succ])
  (refine wpL_val (v := ?_) (by rfl) ?_ ?_; rotate_left 1; (focus (go_simp; first | done | with_reducible rfl)))
  (try simp only [Act.put, List.setIfInBounds_toArray, List.set_cons_zero, List.set_cons_succ])
  refine wpL_val (v := .int .u8 ((X / 256 % 256 : Nat) : Int)) (by rfl) (by go_simp; (try simp only [IntKind.wrap_u8, IntKind.wrap_i64]); (try omega)) ?_
  (try simp only [Act.put, List.setIfInBounds_toArray, List.set_cons_zero, List.set_cons_succ])
  refine wpL_val (v := .int .i64 ((X / 256 % 256 : Nat) : Int)) (by rfl) (by go_simp; (try simp only [IntKind.wrap_u8, IntKind.wrap_i64]); (try omega)) ?_
  (try simp only [Act.put, List.setIfInBounds_toArray, List.set_cons_zero, List.set_cons_succ])
  refine wpL_callv (wbyte_n (n := X / 256 % 256) (by omega) ⟨k_p, ow_b6⟩ (by first | omega | (simp only [List.length_append, List.length_cons, List.length_nil]; omega))) (by rfl) rfl (by kernel_rfl) rfl ?_
  (try simp only [Act.put, List.setIfInBounds_toArray, List.set_cons_zero, List.set_cons_succ])
  rintro W7 ⟨v_b7, hto⟩
  have at_b7 := hto.fr
  have hO := hto.off
  have kk := hto.wr.1
  have ow_b7 := hto.wr.2
  clear hto
  have ne_b7_p := own_ne at_b7 ne_b6_p (blk_lt k_p)
  have fr_b7 := own_fr at_b7 fr_b6 sz
  replace off0 := off0.step hO (ic fb_p (io fr_b6))
  replace sz := off0.size
  replace k_p := kk
  have ne_b7_p := Own.ne_blk ow_b7 k_p (by decide)
  clear hO at_b7 kk
  refine wpL_nil ?_
  go_wp2_with fail
  rw [rounds_succ]
  go_upto_region 3 with fail
  refine wp_region_lit ?_
  (refine wpL_val (v := ?_) (by rfl) ?_ ?_; rotate_left 1; (focus (go_simp; first | done | with_reducible rfl)))
  (try simp only [Act.put, List.setIfInBounds_toArray, List.set_cons_zero, List.set_cons_succ])
  (refine wpL_val (v := ?_) (by rfl) ?_ ?_; rotate_left 1; (focus (go_simp; first | done | with_reducible rfl)))
  (try simp only [Act.put, List.setIfInBounds_toArray, List.set_cons_zero, List.set_cons_succ])
  refine wpL_val (v := .int .u64 (X : Int)) (by rfl) (by go_simp; (try simp only [hx2])) ?_
  (try simp only [Act.put, List.setIfInBounds_toArray, List.set_cons_zero, List.set_cons_succ])
  refine wpL_val (v := .int .i64 0) (by rfl) (by first | rfl | (go_simp; done) | (go_simp; with_reducible rfl) | (go_simp; omega)) ?_
  (try simp only [Act.put, List.setIfInBounds_toArray, List.set_cons_zero, List.set_cons_succ])
  refine wpL_val (v := .int .i64 0) (by rfl) (by first | rfl | (go_simp; done) | (go_simp; with_reducible rfl) | (go_simp; omega)) ?_
  (try simp only [Act.put, List.setIfInBounds_toArray, List.set_cons_zero, List.set_cons_succ])
  (refine wpL_val (v := ?_) (by rfl) ?_ ?_; rotate_left 1; (focus (go_simp; first | done | with_reducible rfl)))
  (try simp only [Act.put, List.setIfInBounds_toArray, List.set_cons_zero, List.set_cons_succ])
  refine wpL_val (v := .int .u8 ((X % 256 : Nat) : Int)) (by rfl) (by go_simp; (try simp only [IntKind.wrap_u8, IntKind.wrap_i64]); (try omega)) ?_
  (try simp only [Act.put, List.setIfInBounds_toArray, List.set_cons_zero, List.set_cons_succ])
  refine wpL_val (v := .int .i64 ((X % 256 : Nat) : Int)) (by rfl) (by go_simp; (try simp only [IntKind.wrap_u8, IntKind.wrap_i64]); (try omega)) ?_
  (try simp only [Act.put, List.setIfInBounds_toArray, List.set_cons_zero, List.set_cons_succ])
  refine wpL_callv (wbyte_n (n := X % 256) (by omega) ⟨k_p, ow_b7⟩ (by first | omega | (simp only [List.length_append, List.length_cons, List.length_nil]; omega))) (by rfl) rfl (by kernel_rfl) rfl ?_
  (try simp only [Act.put, List.setIfInBounds_toArray, List.set_cons_zero, List.set_cons_succ])
  rintro W8 ⟨v_b8, hto⟩
  have at_b8 := hto.fr
  have hO := hto.off
  have kk := hto.wr.1
  have ow_b8 := hto.wr.2
  clear hto
  have ne_b8_p := own_ne at_b8 ne_b7_p (blk_lt k_p)
  have fr_b8 := own_fr at_b8 fr_b7 sz
  replace off0 := off0.step hO (ic fb_p (io fr_b7))
  replace sz := off0.size
  replace k_p := kk
  have ne_b8_p := Own.ne_blk ow_b8 k_p (by decide)
  clear hO at_b8 kk
  refine wpL_nil ?_
  go_wp2_with fail
  rw [rounds_succ]
  go_wp2
  have e8 : (((((((l ++ [u8 (X / 72057594037927936 % 256)]) ++ [u8 (X / 281474976710656 % 256)]) ++ [u8 (X / 1099511627776 % 256)]) ++ [u8 (X / 4294967296 % 256)]) ++ [u8 (X / 16777216 % 256)]) ++ [u8 (X / 65536 % 256)]) ++ [u8 (X / 256 % 256)]) ++ [u8 (X % 256)] = l ++ be8 X := by simp only [u8_mod, be8, List.append_assoc, List.cons_append, List.nil_append]
  rw [e8] at ow_b8
  exact bodyPost_end (v := .tuple #[]) (by simp only [results, Try.results20]; go_simp) rfl ⟨rfl, _, ⟨k_p, ow_b8⟩, off0, fr_cons fr_b8 ne_b8_p⟩
set_option maxHeartbeats 4000000 in
theorem wsum_c (s : List UInt8) (hs : s.length = 32) (p : Nat) (v : Value) (l : List UInt8) (big : Bool) (w : World) (hwr : Wr w p v l big) (hl : l.length < 140737488355290) :
    Calls Try.prog 21 #[.pointer (some ⟨p, 0, none⟩), .agg (bs8 s).toArray] w fun e w' => e = .returned (.tuple #[]) ∧ ∃ v', WrTo w p v (l ++ s) big v' w' := by
  have off0 : Off (p :: v.ownBlock.toList) w w := Off.refl _ _
  have sz := off0.size
  obtain ⟨k_p, ow_b⟩ := hwr
  have ne_b_p := ow_b.ne_blk k_p (by decide)
  have fb_p : Fb p w.heap.size (p :: v.ownBlock.toList) := fun _ => by simp
  have fr_b : Fr (Value.ownBlock v) w.heap.size (p :: v.ownBlock.toList) := fun x hx _ => by simp [hx]
  go_enter Try.func21, Try.ntmps21
  go_upto_region 0 with fail
  refine wp_region_lit ?_
  refine wpL_new (z := (bs8 s).toArray) (t := 32) (by rfl) (by first | kernel_rfl | (go_simp; done) | (go_simp; rfl)) ?_
  (try simp only [Act.put, List.setIfInBounds_toArray, List.set_cons_zero, List.set_cons_succ])
  intro p3_1 W1 n_t3 hO h_
  have nq_p_t3 : p ≠ p3_1 := Nat.ne_of_lt (Nat.lt_of_lt_of_le (blk_lt k_p) n_t3)
  have ne_b_t3 := ne_new (Own.lt ow_b) n_t3
  have fb_t3 : Fb p3_1 w.heap.size (p :: v.ownBlock.toList) := fb_new (Nat.le_trans sz n_t3)
  replace k_p := blk_off k_p hO nm0
  replace ow_b := Own.off ow_b hO f0
  replace off0 := off0.step hO i0
  replace sz := off0.size
  have k_t3 := h_
  clear hO h_ n_t3
  refine wpL_nil ?_
  go_upto_region 2 with fail
  refine wp_region_xn 6 [] (by kernel_rfl) (fun x hx => by cases hx) (by kernel_rfl) ?_
  simp only [List.take_succ_cons, List.take_zero, List.take_nil]
  (try simp only [Act.put, List.setIfInBounds_toArray, List.set_cons_zero, List.set_cons_succ])
  (refine wpX_val (v := ?_) (by rfl) (fun W hW => ?_) ?_; rotate_left 1; (focus (go_simp; first | done | with_reducible rfl)); (try simp only [Act.put, List.setIfInBounds_toArray, List.set_cons_zero, List.set_cons_succ]))
  (refine wpX_val (v := ?_) (by rfl) (fun W hW => ?_) ?_; rotate_left 1; (focus (go_simp; first | done | with_reducible rfl)); (try simp only [Act.put, List.setIfInBounds_toArray, List.set_cons_zero, List.set_cons_succ]))
  (refine wpX_val (v := ?_) (by rfl) (fun W hW => ?_) ?_; rotate_left 1; (focus (go_simp; first | done | with_reducible rfl)); (try simp only [Act.put, List.setIfInBounds_toArray, List.set_cons_zero, List.set_cons_succ]))
  (refine wpX_val (v := ?_) (by rfl) (fun W hW => ?_) ?_; rotate_left 1; (focus (go_simp; first | done | with_reducible rfl)); (try simp only [Act.put, List.setIfInBounds_toArray, List.set_cons_zero, List.set_cons_succ]))
  refine wpX_cell (v := v) (blk_rd k_p) (by rfl) (by rfl) rfl rfl (by kernel_rfl) ?_
  (try simp only [Act.put, List.setIfInBounds_toArray, List.set_cons_zero, List.set_cons_succ])
  (refine wpX_val (v := ?_) (by rfl) (fun W hW => ?_) ?_; rotate_left 1; (focus (go_simp; first | done | with_reducible rfl)); (try simp only [Act.put, List.setIfInBounds_toArray, List.set_cons_zero, List.set_cons_succ]))
  refine wpX_nil ?_
  intro β W2 hE hN hD
  clear hN hD
  simp only [putAll, Act.put, List.setIfInBounds_toArray, List.set_cons_zero, List.set_cons_succ, List.drop_succ_cons, List.drop_zero, List.drop_nil, List.length_nil, Nat.add_zero]
  have hO := off_ext hE
  replace k_p := blk_off k_p hO nm0
  replace k_t3 := blk_off k_t3 hO nm0
  replace ow_b := Own.off ow_b hO f0
  replace off0 := off0.step hO i0
  replace sz := off0.size
  clear hO hE β
  have ow_arr : Sl W2 (.slice (some ⟨p3_1, 0, none⟩) 32 32) s := sl_blk k_t3 hs.symm (Nat.le_refl _) (by decide) (fun j x hj => by rw [Nat.zero_add]; simpa using bs8_get hj)
  have ne_arr_p : sb (.slice (some ⟨p3_1, 0, none⟩) 32 32) s ≠ some p := sb_ne nq_p_t3.symm
  have dj_b_arr : ∀ x, (Value.ownBlock v) = some x → sb (.slice (some ⟨p3_1, 0, none⟩) 32 32) s ≠ some x := dj_blk ne_b_t3
  refine wpL_append (xs := l) (ys := s) (by rfl) rfl rfl rfl ow_b ow_arr (by omega) ?_
  (try simp only [Act.put, List.setIfInBounds_toArray, List.set_cons_zero, List.set_cons_succ])
  intro v12_3 W3 ow_a12 hO at_a12 nil_a12
  clear nil_a12
  have ne_a12_p := own_ne at_a12 ne_b_p (blk_lt k_p)
  have ne_a12_t3 := own_ne at_a12 ne_b_t3 (blk_lt k_t3)
  have dj_a12_arr := own_dj at_a12 dj_b_arr (Sl.lt ow_arr)
  have fr_a12 := own_fr at_a12 fr_b sz
  replace k_p := blk_off k_p hO (nmo ne_b_p)
  replace k_t3 := blk_off k_t3 hO (nmo ne_b_t3)
  replace ow_arr := Sl.off ow_arr hO (fo dj_b_arr)
  replace off0 := off0.step hO (io fr_b)
  replace sz := off0.size
  clear hO at_a12
  (refine wpL_val (v := ?_) (by rfl) ?_ ?_; rotate_left 1; (focus (go_simp; first | done | with_reducible rfl)))
  (try simp only [Act.put, List.setIfInBounds_toArray, List.set_cons_zero, List.set_cons_succ])
  (refine wpL_val (v := ?_) (by rfl) ?_ ?_; rotate_left 1; (focus (go_simp; first | done | with_reducible rfl)))
  (try simp only [Act.put, List.setIfInBounds_toArray, List.set_cons_zero, List.set_cons_succ])
  refine wpL_put1 (v := v12_3) (own_cells ow_a12) (by rfl) rfl rfl rfl k_p (by show 0 < 2; decide) (by kernel_rfl) ?_
  (try simp only [Act.put, List.setIfInBounds_toArray, List.set_cons_zero, List.set_cons_succ])
  intro W4 hO h_
  replace k_p : Blk W4 p #[v12_3, .bool big] 31 := h_
  clear h_
  replace k_t3 := blk_off k_t3 hO (nm1 nq_p_t3.symm)
  replace ow_arr := Sl.off ow_arr hO (f1 ne_arr_p)
  replace ow_a12 := Own.off ow_a12 hO (f1 ne_a12_p)
  replace off0 := off0.step hO (i1 fb_p)
  replace sz := off0.size
  clear hO
  refine wpL_nil ?_
  first | refine NoPanic.normal (Q := Exit.then _ _) ?_ | refine NoPanic.normal ?_
  go_wp2
  exact bodyPost_end (v := .tuple #[]) (by simp only [results, Try.results21]; go_simp) rfl ⟨rfl, _, ⟨k_p, ow_a12⟩, off0, fr_cons fr_a12 ne_a12_p⟩
set_option maxHeartbeats 4000000 in
theorem wtext_big (u : Value) (m : List UInt8) (c : Nat) (A : Option Addr) (hu : u = .slice A m.length c) (hm : 65535 < m.length) (p : Nat) (v : Value) (l : List UInt8) (big : Bool) (w : World) (hwr : Wr w p v l big) :
    Calls Try.prog 7 #[.pointer (some ⟨p, 0, none⟩), u] w fun e w' => e = .returned (.tuple #[]) ∧ ∃ v', WrTo w p v l true v' w' := by
  subst hu
  have off0 : Off (p :: v.ownBlock.toList) w w := Off.refl _ _
  have sz := off0.size
  obtain ⟨k_p, ow_b⟩ := hwr
  have ne_b_p := ow_b.ne_blk k_p (by decide)
  have fb_p : Fb p w.heap.size (p :: v.ownBlock.toList) := fun _ => by simp
  have fr_b : Fr (Value.ownBlock v) w.heap.size (p :: v.ownBlock.toList) := fun x hx _ => by simp [hx]
  go_enter Try.func7, Try.ntmps7
  go_upto_region 2 with fail
  refine wp_region_lit ?_
  (refine wpL_val (v := ?_) (by rfl) ?_ ?_; rotate_left 1; (focus (go_simp; first | done | with_reducible rfl)))
  (try simp only [Act.put, List.setIfInBounds_toArray, List.set_cons_zero, List.set_cons_succ])
  (refine wpL_val (v := ?_) (by rfl) ?_ ?_; rotate_left 1; (focus (go_simp; first | done | with_reducible rfl)))
  (try simp only [Act.put, List.setIfInBounds_toArray, List.set_cons_zero, List.set_cons_succ])
  refine wpL_val (v := .bool true) (by rfl) (by first | rfl | (go_simp; done) | (go_simp; with_reducible rfl) | (go_simp; omega)) ?_
  (try simp only [Act.put, List.setIfInBounds_toArray, List.set_cons_zero, List.set_cons_succ])
  refine wpL_val (v := .bool true) (by rfl) (by first | rfl | (go_simp; done) | (go_simp; with_reducible rfl) | (go_simp; omega)) ?_
  (try simp only [Act.put, List.setIfInBounds_toArray, List.set_cons_zero, List.set_cons_succ])
  refine wpL_nil ?_
  go_upto_region 3 with fail
  refine wp_region_lit ?_
  (refine wpL_val (v := ?_) (by rfl) ?_ ?_; rotate_left 1; (focus (go_simp; first | done | with_reducible rfl)))
  (try simp only [Act.put, List.setIfInBounds_toArray, List.set_cons_zero, List.set_cons_succ])
  (refine wpL_val (v := ?_) (by rfl) ?_ ?_; rotate_left 1; (focus (go_simp; first | done | with_reducible rfl)))
  (try simp only [Act.put, List.setIfInBounds_toArray, List.set_cons_zero, List.set_cons_succ])
  (refine wpL_val (v := ?_) (by rfl) ?_ ?_; rotate_left 1; (focus (go_simp; first | done | with_reducible rfl)))
  (try simp only [Act.put, List.setIfInBounds_toArray, List.set_cons_zero, List.set_cons_succ])
  refine wpL_put1 (v := .bool true) ⟨rfl, rfl⟩ (by rfl) rfl rfl rfl k_p (by show 1 < 2; decide) (by kernel_rfl) ?_
  (try simp only [Act.put, List.setIfInBounds_toArray, List.set_cons_zero, List.set_cons_succ])
  intro W1 hO h_
  replace k_p : Blk W1 p #[v, .bool true] 31 := h_
  clear h_
  replace ow_b := Own.off ow_b hO (f1 ne_b_p)
  replace off0 := off0.step hO (i1 fb_p)
  replace sz := off0.size
  clear hO
  refine wpL_nil ?_
  go_wp2
  exact bodyPost_end (v := .tuple #[]) (by simp only [results, Try.results7]; go_simp) rfl ⟨rfl, _, ⟨k_p, ow_b⟩, off0, fr_cons fr_b ne_b_p⟩
set_option maxHeartbeats 4000000 in
theorem wtext_c (p : Nat) (v : Value) (l : List UInt8) (big : Bool) (w : World) (hwr : Wr w p v l big) (u : Value) (m : List UInt8) (hu : Sl w u m) (hm : m.length ≤ 65535) (hup : sb u m ≠ some p) (hub : ∀ x, v.ownBlock = some x → sb u m ≠ some x) (hl : l.length < 140737488280000) :
    Calls Try.prog 7 #[.pointer (some ⟨p, 0, none⟩), u] w fun e w' => e = .returned (.tuple #[]) ∧ ∃ v', WrTo w p v (l ++ [u8 (m.length / 256), u8 m.length] ++ m) big v' w' := by
  obtain ⟨A, c, rfl, hc1, hc2, hc3, hc4⟩ := id hu
  have off0 : Off (p :: v.ownBlock.toList) w w := Off.refl _ _
  have sz := off0.size
  obtain ⟨k_p, ow_b⟩ := hwr
  have ne_b_p := ow_b.ne_blk k_p (by decide)
  have fb_p : Fb p w.heap.size (p :: v.ownBlock.toList) := fun _ => by simp
  have fr_b : Fr (Value.ownBlock v) w.heap.size (p :: v.ownBlock.toList) := fun x hx _ => by simp [hx]
  have ow_t := hu
  have ne_t_p := hup
  have dj_b_t := hub
  go_enter Try.func7, Try.ntmps7
  go_upto_region 2 with fail
  refine wp_region_lit ?_
  (refine wpL_val (v := ?_) (by rfl) ?_ ?_; rotate_left 1; (focus (go_simp; first | done | with_reducible rfl)))
  (try simp only [Act.put, List.setIfInBounds_toArray, List.set_cons_zero, List.set_cons_succ])
  refine wpL_len (l := m) ow_t (by rfl) rfl rfl ?_
  (try simp only [Act.put, List.setIfInBounds_toArray, List.set_cons_zero, List.set_cons_succ])
  refine wpL_val (v := .bool false) (by rfl) (by first | rfl | (go_simp; done) | (go_simp; with_reducible rfl) | (go_simp; omega)) ?_
  (try simp only [Act.put, List.setIfInBounds_toArray, List.set_cons_zero, List.set_cons_succ])
  refine wpL_val (v := .bool false) (by rfl) (by first | rfl | (go_simp; done) | (go_simp; with_reducible rfl) | (go_simp; omega)) ?_
  (try simp only [Act.put, List.setIfInBounds_toArray, List.set_cons_zero, List.set_cons_succ])
  refine wpL_nil ?_
  go_upto_region 0 with fail
  refine wp_region_lit ?_
  (refine wpL_val (v := ?_) (by rfl) ?_ ?_; rotate_left 1; (focus (go_simp; first | done | with_reducible rfl)))
  (try simp only [Act.put, List.setIfInBounds_toArray, List.set_cons_zero, List.set_cons_succ])
  (refine wpL_val (v := ?_) (by rfl) ?_ ?_; rotate_left 1; (focus (go_simp; first | done | with_reducible rfl)))
  (try simp only [Act.put, List.setIfInBounds_toArray, List.set_cons_zero, List.set_cons_succ])
  (refine wpL_val (v := ?_) (by rfl) ?_ ?_; rotate_left 1; (focus (go_simp; first | done | with_reducible rfl)))
  (try simp only [Act.put, List.setIfInBounds_toArray, List.set_cons_zero, List.set_cons_succ])
  (refine wpL_val (v := ?_) (by rfl) ?_ ?_; rotate_left 1; (focus (go_simp; first | done | with_reducible rfl)))
  (try simp only [Act.put, List.setIfInBounds_toArray, List.set_cons_zero, List.set_cons_succ])
  refine wpL_get (v := v) (by rfl) rfl rfl k_p (by rfl) (by kernel_rfl) ?_
  (try simp only [Act.put, List.setIfInBounds_toArray, List.set_cons_zero, List.set_cons_succ])
  (refine wpL_val (v := ?_) (by rfl) ?_ ?_; rotate_left 1; (focus (go_simp; first | done | with_reducible rfl)))
  (try simp only [Act.put, List.setIfInBounds_toArray, List.set_cons_zero, List.set_cons_succ])
  refine wpL_len (l := m) ow_t (by rfl) rfl rfl ?_
  (try simp only [Act.put, List.setIfInBounds_toArray, List.set_cons_zero, List.set_cons_succ])
  (refine wpL_val (v := ?_) (by rfl) ?_ ?_; rotate_left 1; (focus (go_simp; first | done | with_reducible rfl)))
  (try simp only [Act.put, List.setIfInBounds_toArray, List.set_cons_zero, List.set_cons_succ])
  refine wpL_val (v := .int .u8 ((u8 (m.length / 256)).toNat : Int)) (by rfl) (by go_simp; (try simp only [u8_nat, IntKind.wrap_u8]); omega) ?_
  (try simp only [Act.put, List.setIfInBounds_toArray, List.set_cons_zero, List.set_cons_succ])
  (refine wpL_val (v := ?_) (by rfl) ?_ ?_; rotate_left 1; (focus (go_simp; first | done | with_reducible rfl)))
  (try simp only [Act.put, List.setIfInBounds_toArray, List.set_cons_zero, List.set_cons_succ])
  refine wpL_len (l := m) ow_t (by rfl) rfl rfl ?_
  (try simp only [Act.put, List.setIfInBounds_toArray, List.set_cons_zero, List.set_cons_succ])
  refine wpL_val (v := .int .u8 ((u8 m.length).toNat : Int)) (by rfl) (by go_simp; (try simp only [u8_nat, IntKind.wrap_u8]); omega) ?_
  (try simp only [Act.put, List.setIfInBounds_toArray, List.set_cons_zero, List.set_cons_succ])
  refine wpL_newS (z := #[.int .u8 ((u8 (m.length / 256)).toNat : Int), .int .u8 ((u8 m.length).toNat : Int)]) (t := 5) (n := 2) (c := 2) (by rfl) (by first | kernel_rfl | (go_simp; done) | (go_simp; rfl)) ?_
  (try simp only [Act.put, List.setIfInBounds_toArray, List.set_cons_zero, List.set_cons_succ])
  intro p16_1 W1 n_s16 hO h_
  have ne_s16_p : Value.ownBlock (.slice (some ⟨p16_1, 0, none⟩) 2 2) ≠ some p := fun e_ => (Nat.ne_of_lt (Nat.lt_of_lt_of_le (blk_lt k_p) n_s16)) (Option.some.inj e_).symm
  have dj_b_s16 : ∀ x, (Value.ownBlock v) = some x → Value.ownBlock (.slice (some ⟨p16_1, 0, none⟩) 2 2) ≠ some x := dj_new (Own.lt ow_b) n_s16
  have dj_t_s16 : ∀ x, (sb (.slice A m.length c) m) = some x → Value.ownBlock (.slice (some ⟨p16_1, 0, none⟩) 2 2) ≠ some x := dj_new (Sl.lt ow_t) n_s16
  have fr_s16 : Fr (Value.ownBlock (.slice (some ⟨p16_1, 0, none⟩) 2 2)) w.heap.size (p :: v.ownBlock.toList) := fr_new (Nat.le_trans sz n_s16)
  replace k_p := blk_off k_p hO nm0
  replace ow_b := Own.off ow_b hO f0
  replace ow_t := Sl.off ow_t hO f0
  replace off0 := off0.step hO i0
  replace sz := off0.size
  have ow_s16 : Own W1 (.slice (some ⟨p16_1, 0, none⟩) 2 2) [u8 (m.length / 256), u8 m.length] := own_blk h_ (by rfl) (by show 2 ≤ maxLen; decide)
  clear hO h_ n_s16
  refine wpL_append (xs := l) (ys := [u8 (m.length / 256), u8 m.length]) (by rfl) rfl rfl rfl ow_b (Own.sl ow_s16) (by first | omega | (simp only [List.length_append, List.length_cons, List.length_nil]; omega)) ?_
  (try simp only [Act.put, List.setIfInBounds_toArray, List.set_cons_zero, List.set_cons_succ])
  intro v17_2 W2 ow_a17 hO at_a17 nil_a17
  clear nil_a17
  have ne_a17_p := own_ne at_a17 ne_b_p (blk_lt k_p)
  have dj_a17_t := own_dj at_a17 dj_b_t (Sl.lt ow_t)
  have dj_a17_s16 := own_dj at_a17 dj_b_s16 (Own.lt ow_s16)
  have fr_a17 := own_fr at_a17 fr_b sz
  replace k_p := blk_off k_p hO (nmo ne_b_p)
  replace ow_t := Sl.off ow_t hO (fo dj_b_t)
  replace ow_s16 := Own.off ow_s16 hO (fo dj_b_s16)
  replace off0 := off0.step hO (io fr_b)
  replace sz := off0.size
  clear hO at_a17
  (refine wpL_val (v := ?_) (by rfl) ?_ ?_; rotate_left 1; (focus (go_simp; first | done | with_reducible rfl)))
  (try simp only [Act.put, List.setIfInBounds_toArray, List.set_cons_zero, List.set_cons_succ])
  refine wpL_append (xs := (l ++ [u8 (m.length / 256), u8 m.length])) (ys := m) (by rfl) rfl rfl rfl ow_a17 ow_t (by first | omega | (simp only [List.length_append, List.length_cons, List.length_nil]; omega)) ?_
  (try simp only [Act.put, List.setIfInBounds_toArray, List.set_cons_zero, List.set_cons_succ])
  intro v19_3 W3 ow_a19 hO at_a19 nil_a19
  clear nil_a19
  have ne_a19_p := own_ne at_a19 ne_a17_p (blk_lt k_p)
  have dj_a19_t := own_dj at_a19 dj_a17_t (Sl.lt ow_t)
  have dj_a19_s16 := own_dj at_a19 dj_a17_s16 (Own.lt ow_s16)
  have fr_a19 := own_fr at_a19 fr_a17 sz
  replace k_p := blk_off k_p hO (nmo ne_a17_p)
  replace ow_t := Sl.off ow_t hO (fo dj_a17_t)
  replace ow_s16 := Own.off ow_s16 hO (fo dj_a17_s16)
  replace off0 := off0.step hO (io fr_a17)
  replace sz := off0.size
  clear hO at_a19
  (refine wpL_val (v := ?_) (by rfl) ?_ ?_; rotate_left 1; (focus (go_simp; first | done | with_reducible rfl)))
  (try simp only [Act.put, List.setIfInBounds_toArray, List.set_cons_zero, List.set_cons_succ])
  (refine wpL_val (v := ?_) (by rfl) ?_ ?_; rotate_left 1; (focus (go_simp; first | done | with_reducible rfl)))
  (try simp only [Act.put, List.setIfInBounds_toArray, List.set_cons_zero, List.set_cons_succ])
  refine wpL_put1 (v := v19_3) (own_cells ow_a19) (by rfl) rfl rfl rfl k_p (by show 0 < 2; decide) (by kernel_rfl) ?_
  (try simp only [Act.put, List.setIfInBounds_toArray, List.set_cons_zero, List.set_cons_succ])
  intro W4 hO h_
  replace k_p : Blk W4 p #[v19_3, .bool big] 31 := h_
  clear h_
  replace ow_t := Sl.off ow_t hO (f1 ne_t_p)
  replace ow_s16 := Own.off ow_s16 hO (f1 ne_s16_p)
  replace ow_a19 := Own.off ow_a19 hO (f1 ne_a19_p)
  replace off0 := off0.step hO (i1 fb_p)
  replace sz := off0.size
  clear hO
  refine wpL_nil ?_
  go_wp2
  exact bodyPost_end (v := .tuple #[]) (by simp only [results, Try.results7]; go_simp) rfl ⟨rfl, _, ⟨k_p, ow_a19⟩, off0, fr_cons fr_a19 ne_a19_p⟩
end Go.Proofs.Yteniajdmmffamaa
