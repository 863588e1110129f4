/- codec's Writer as a part of wire's: its methods. Conditions: memory holds what is written. -/
import Derived.Test.YtlbgelbhhibikaaGc
import Derived.Test.YtlbgelbhhibikaaKa
import Derived.Test.YtlbgelbhhibikaaJ7
set_option linter.unusedSimpArgs false
set_option linter.unusedVariables false
namespace Go.Proofs.Ytlbgelbhhibikaa.Ww
set_option maxHeartbeats 4000000
set_option maxRecDepth 100000
open Go.RowKit
variable {bad : Bool}
/-- A writer: its row of bytes, and whether something was too big. -/
def Wr (bad : Bool) (w : World) (p : Nat) (v : Value) (l : List UInt8) (big : Bool) : Prop := Blk w p #[v, .bool big, .bool bad] 96 ∧ Own w v l
end Go.Proofs.Ytlbgelbhhibikaa.Ww

namespace Go.Proofs.Ytlbgelbhhibikaa.Ww
set_option maxHeartbeats 4000000
set_option maxRecDepth 100000
open Go.RowKit
variable {bad : Bool}
/-- What a writer's method leaves. -/
structure WrTo (bad : Bool) (w : World) (p : Nat) (v : Value) (l : List UInt8) (big : Bool) (v' : Value) (w' : World) : Prop where
  wr : Wr bad w' p v' l big
  off : Off (p :: v.ownBlock.toList) w w'
  fr : Fr v'.ownBlock w.heap.size v.ownBlock.toList
end Go.Proofs.Ytlbgelbhhibikaa.Ww

namespace Go.Proofs.Ytlbgelbhhibikaa.Ww
set_option maxHeartbeats 4000000
set_option maxRecDepth 100000
open Go.RowKit
variable {bad : Bool}
theorem wbyte_in (p : Nat) (c : UInt8) (v : Value) (l : List UInt8) (big : Bool) (w : World) (hwr : Wr bad w p v l big) (hl : l.length < 140737488355328) :
  Calls Try.prog 26 #[.pointer (some ⟨p, 0, none⟩), .int .i64 (c.toNat : Int)] w fun e w' => e = .returned (.tuple #[]) ∧ ∃ v', WrTo bad w p v (l ++ [c]) big v' w' := by
 have c0 : (0 : Int) ≤ (c.toNat : Int) := Int.natCast_nonneg _
 have c1 : (c.toNat : Int) ≤ 255 := by have := c.toNat_lt; omega
 have wc := wrap_u8 c
 have off0 : Off (p :: v.ownBlock.toList) w w := Off.refl _ _
 obtain ⟨k_p, ow_b⟩ := hwr
 have ne_b_p := ow_b.ne_blk k_p (by decide)
 have fb_p : Fb p w.heap.size (p :: v.ownBlock.toList) := fun _ => by simp
 have fr_b : Fr (Value.ownBlock v) w.heap.size (p :: v.ownBlock.toList) := fun x hx _ => by simp [hx]
 go_enter Try.func26, Try.ntmps26
 go_upto_region 0 with fail
 refine wp_region_lit ?_
 refine Lv ?_
 refine Lv ?_
 refine Lv ?_
 refine Lv ?_
 refine Lg ?_ k_p (v := v)
 refine Lv ?_
 refine Lw ?_ (v := .int .u8 (c.toNat : Int))
 refine LnS ?_ (z := #[.int .u8 (c.toNat : Int)]) (t := 5) (n := 1) (c := 1)
 intro p11_1 W1 n_s11 hO h_
 replace k_p := k_p.o hO
 replace ow_b := Own.off ow_b hO f0
 replace off0 := off0.o hO
 have ow_s11 : Own W1 (.slice (some ⟨p11_1, 0, none⟩) 1 1) [c] := own_blk h_ (by rfl) (by show 1 ≤ maxLen; decide)
 clear hO h_ n_s11
 refine wpL_append (xs := l) (ys := [c]) (by rfl) rfl rfl rfl ow_b (Own.sl ow_s11) (by first | omega | (simp only [List.length_append, List.length_cons, List.length_nil]; omega)) ?_
 (try simp only [Act.put, mA, mB, mC])
 intro v12_2 W2 ow_a12 hO at_a12 nil_a12
 clear nil_a12
 have ne_a12_p := own_ne at_a12 ne_b_p (blk_lt k_p)
 have fr_a12 := own_fr at_a12 fr_b off0.size
 replace k_p := blk_off k_p hO (nmo ne_b_p)
 replace off0 := off0.step hO (io fr_b)
 clear hO at_a12
 refine Lv ?_
 refine Lv ?_
 refine wpL_put1 (v := v12_2) (own_cells ow_a12) (by rfl) rfl rfl rfl k_p (by show 0 < 3; decide) (by kernel_rfl) ?_
 (try simp only [Act.put, mA, mB, mC])
 intro W3 hO h_
 replace k_p : Blk W3 p #[v12_2, .bool big, .bool bad] 96 := h_
 clear h_
 replace ow_a12 := Own.off ow_a12 hO (f1 ne_a12_p)
 replace off0 := off0.p hO fb_p
 clear hO
 refine wpL_nil ?_
 go_wp2
 exact bodyPost_end (v := .tuple #[]) (by simp only [results, Try.results26]; go_simp) rfl ⟨rfl, _, ⟨k_p, ow_a12⟩, off0, fr_cons fr_a12 ne_a12_p⟩
end Go.Proofs.Ytlbgelbhhibikaa.Ww

namespace Go.Proofs.Ytlbgelbhhibikaa.Ww
set_option maxHeartbeats 4000000
set_option maxRecDepth 100000
open Go.RowKit
variable {bad : Bool}
theorem wbyte_out (p : Nat) (n : Int) (hn : n < 0 ∨ 255 < n) (v : Value) (l : List UInt8) (big : Bool) (w : World) (hwr : Wr bad w p v l big) :
  Calls Try.prog 26 #[.pointer (some ⟨p, 0, none⟩), .int .i64 n] w fun e w' => e = .returned (.tuple #[]) ∧ ∃ v', WrTo bad w p v l true v' w' := by
 have off0 : Off (p :: v.ownBlock.toList) w w := Off.refl _ _
 obtain ⟨k_p, ow_b⟩ := hwr
 have ne_b_p := ow_b.ne_blk k_p (by decide)
 have fb_p : Fb p w.heap.size (p :: v.ownBlock.toList) := fun _ => by simp
 have fr_b : Fr (Value.ownBlock v) w.heap.size (p :: v.ownBlock.toList) := fun x hx _ => by simp [hx]
 go_enter Try.func26, Try.ntmps26
 by_cases hx : n < 0
 ·
  have _f := hx
  go_upto_region 3 with fail
  refine wp_region_lit ?_
  refine Lv ?_
  refine Lv ?_
  refine Lv ?_
  refine wpL_put1 (v := .bool true) ⟨rfl, rfl⟩ (by rfl) rfl rfl rfl k_p (by show 1 < 3; decide) (by kernel_rfl) ?_
  (try simp only [Act.put, mA, mB, mC])
  intro W1 hO h_
  replace k_p : Blk W1 p #[v, .bool true, .bool bad] 96 := h_
  clear h_
  replace ow_b := Own.off ow_b hO (f1 ne_b_p)
  replace off0 := off0.p hO fb_p
  clear hO
  refine wpL_nil ?_
  go_wp2
  exact bodyPost_end (v := .tuple #[]) (by simp only [results, Try.results26]; go_simp) rfl ⟨rfl, _, ⟨k_p, ow_b⟩, off0, fr_cons fr_b ne_b_p⟩
 ·
  have _f := hx
  have hy : 255 < n := hn.resolve_left hx
  go_upto_region 3 with fail
  refine wp_region_lit ?_
  refine Lv ?_
  refine Lv ?_
  refine Lv ?_
  refine wpL_put1 (v := .bool true) ⟨rfl, rfl⟩ (by rfl) rfl rfl rfl k_p (by show 1 < 3; decide) (by kernel_rfl) ?_
  (try simp only [Act.put, mA, mB, mC])
  intro W1 hO h_
  replace k_p : Blk W1 p #[v, .bool true, .bool bad] 96 := h_
  clear h_
  replace ow_b := Own.off ow_b hO (f1 ne_b_p)
  replace off0 := off0.p hO fb_p
  clear hO
  refine wpL_nil ?_
  go_wp2
  exact bodyPost_end (v := .tuple #[]) (by simp only [results, Try.results26]; go_simp) rfl ⟨rfl, _, ⟨k_p, ow_b⟩, off0, fr_cons fr_b ne_b_p⟩
end Go.Proofs.Ytlbgelbhhibikaa.Ww

namespace Go.Proofs.Ytlbgelbhhibikaa.Ww
set_option maxHeartbeats 4000000
set_option maxRecDepth 100000
open Go.RowKit
variable {bad : Bool}
theorem wbyte_c {p : Nat} {n : Int} {v : Value} {l : List UInt8} {big : Bool} {w : World} (hwr : Wr bad w p v l big) (hl : l.length < 140737488355328) :
    Calls Try.prog 26 #[.pointer (some ⟨p, 0, none⟩), .int .i64 n] w fun e w' => e = .returned (.tuple #[]) ∧ ∃ v', WrTo bad w p v (if 0 ≤ n ∧ n ≤ 255 then l ++ [u8 n.toNat] else l) (big || !decide (0 ≤ n ∧ n ≤ 255)) v' w' := by
  by_cases h : 0 ≤ n ∧ n ≤ 255
  · have := wbyte_in p (u8 n.toNat) v l big w hwr hl
    have e : ((u8 n.toNat).toNat : Int) = n := by rw [u8_nat]; omega
    rw [e] at this
    rw [if_pos h, decide_eq_true h, Bool.not_true, Bool.or_false]
    exact this
  · rw [if_neg h, decide_eq_false h, Bool.not_false, Bool.or_true]
    exact wbyte_out p n (by omega) v l big w hwr
end Go.Proofs.Ytlbgelbhhibikaa.Ww

namespace Go.Proofs.Ytlbgelbhhibikaa.Ww
set_option maxHeartbeats 4000000
set_option maxRecDepth 100000
open Go.RowKit
variable {bad : Bool}
theorem wbyte_n {p n : Nat} {v : Value} {l : List UInt8} {big : Bool} {w : World} (hn : n < 256) (hwr : Wr bad w p v l big) (hl : l.length < 140737488355328) :
    Calls Try.prog 26 #[.pointer (some ⟨p, 0, none⟩), .int .i64 (n : Int)] w fun e w' => e = .returned (.tuple #[]) ∧ ∃ v', WrTo bad w p v (l ++ [u8 n]) big v' w' := by
  have := wbyte_in p (u8 n) v l big w hwr hl
  have e : ((u8 n).toNat : Int) = n := by rw [u8_nat]; omega
  rw [e] at this
  exact this
end Go.Proofs.Ytlbgelbhhibikaa.Ww

namespace Go.Proofs.Ytlbgelbhhibikaa.Ww
set_option maxHeartbeats 4000000
set_option maxRecDepth 100000
open Go.RowKit
variable {bad : Bool}
theorem wflag_true (p : Nat) (v : Value) (l : List UInt8) (big : Bool) (w : World) (hwr : Wr bad w p v l big) (hl : l.length < 140737488355328) :
  Calls Try.prog 62 #[.pointer (some ⟨p, 0, none⟩), .bool true] w fun e w' => e = .returned (.tuple #[]) ∧ ∃ v', WrTo bad w p v (l ++ [u8 1]) big v' w' := by
 have off0 : Off (p :: v.ownBlock.toList) w w := Off.refl _ _
 obtain ⟨k_p, ow_b⟩ := hwr
 have ne_b_p := ow_b.ne_blk k_p (by decide)
 have fb_p : Fb p w.heap.size (p :: v.ownBlock.toList) := fun _ => by simp
 have fr_b : Fr (Value.ownBlock v) w.heap.size (p :: v.ownBlock.toList) := fun x hx _ => by simp [hx]
 go_enter Try.func62, Try.ntmps62
 go_upto_region 3 with fail
 refine wp_region_lit ?_
 refine Lv ?_
 refine Lw ?_ (v := .int .i64 1)
 refine Lc ?_ (wbyte_n (n := 1) (by decide) ⟨k_p, ow_b⟩ (by omega))
 rintro W1 ⟨v_b1, hto⟩
 have at_b1 := hto.fr
 have hO := hto.off
 have kk := hto.wr.1
 have ow_b1 := hto.wr.2
 clear hto
 have ne_b1_p := own_ne at_b1 ne_b_p (blk_lt k_p)
 have fr_b1 := own_fr at_b1 fr_b off0.size
 replace off0 := off0.step hO (ic fb_p (io fr_b))
 replace k_p := kk
 have ne_b1_p := Own.ne_blk ow_b1 k_p (by decide)
 clear hO at_b1 kk
 refine wpL_nil ?_
 go_wp2
 exact bodyPost_end (v := .tuple #[]) (by simp only [results, Try.results62]; go_simp) rfl ⟨rfl, _, ⟨k_p, ow_b1⟩, off0, fr_cons fr_b1 ne_b1_p⟩
end Go.Proofs.Ytlbgelbhhibikaa.Ww

namespace Go.Proofs.Ytlbgelbhhibikaa.Ww
set_option maxHeartbeats 4000000
set_option maxRecDepth 100000
open Go.RowKit
variable {bad : Bool}
theorem wflag_false (p : Nat) (v : Value) (l : List UInt8) (big : Bool) (w : World) (hwr : Wr bad w p v l big) (hl : l.length < 140737488355328) :
  Calls Try.prog 62 #[.pointer (some ⟨p, 0, none⟩), .bool false] w fun e w' => e = .returned (.tuple #[]) ∧ ∃ v', WrTo bad w p v (l ++ [u8 0]) big v' w' := by
 have off0 : Off (p :: v.ownBlock.toList) w w := Off.refl _ _
 obtain ⟨k_p, ow_b⟩ := hwr
 have ne_b_p := ow_b.ne_blk k_p (by decide)
 have fb_p : Fb p w.heap.size (p :: v.ownBlock.toList) := fun _ => by simp
 have fr_b : Fr (Value.ownBlock v) w.heap.size (p :: v.ownBlock.toList) := fun x hx _ => by simp [hx]
 go_enter Try.func62, Try.ntmps62
 go_upto_region 3 with fail
 refine wp_region_lit ?_
 refine Lv ?_
 refine Lw ?_ (v := .int .i64 0)
 refine Lc ?_ (wbyte_n (n := 0) (by decide) ⟨k_p, ow_b⟩ (by omega))
 rintro W1 ⟨v_b1, hto⟩
 have at_b1 := hto.fr
 have hO := hto.off
 have kk := hto.wr.1
 have ow_b1 := hto.wr.2
 clear hto
 have ne_b1_p := own_ne at_b1 ne_b_p (blk_lt k_p)
 have fr_b1 := own_fr at_b1 fr_b off0.size
 replace off0 := off0.step hO (ic fb_p (io fr_b))
 replace k_p := kk
 have ne_b1_p := Own.ne_blk ow_b1 k_p (by decide)
 clear hO at_b1 kk
 refine wpL_nil ?_
 go_wp2
 exact bodyPost_end (v := .tuple #[]) (by simp only [results, Try.results62]; go_simp) rfl ⟨rfl, _, ⟨k_p, ow_b1⟩, off0, fr_cons fr_b1 ne_b1_p⟩
end Go.Proofs.Ytlbgelbhhibikaa.Ww

namespace Go.Proofs.Ytlbgelbhhibikaa.Ww
set_option maxHeartbeats 4000000
set_option maxRecDepth 100000
open Go.RowKit
variable {bad : Bool}
end Go.Proofs.Ytlbgelbhhibikaa.Ww

namespace Go.Proofs.Ytlbgelbhhibikaa.Ww
set_option maxHeartbeats 4000000
set_option maxRecDepth 100000
open Go.RowKit
variable {bad : Bool}
theorem wbytes_false (p : Nat) (v : Value) (l : List UInt8) (w : World) (hwr : Wr bad w p v l false) (hl : l.length ≤ 140737488355328) :
  Calls Try.prog 56 #[.pointer (some ⟨p, 0, none⟩)] w fun e w' => ∃ u, e = .returned (.tuple #[u, .int .i64 0]) ∧ NewB w l u w' := by
 have off0 : Off [] w w := Off.refl _ _
 obtain ⟨k_p, ow_b⟩ := hwr
 go_enter Try.func56, Try.ntmps56
 go_upto_region 3 with fail
 refine wp_region_lit ?_
 refine Lv ?_
 refine Lv ?_
 refine Lv ?_
 refine Lg ?_ k_p (v := .bool false)
 refine Lw ?_ (v := .bool false)
 refine wpL_nil ?_
 go_upto_region 5 with fail
 refine wp_region_lit ?_
 refine Lv ?_
 refine Lv ?_
 refine Lv ?_
 refine Lg ?_ k_p (v := v)
 refine wpL_call (R := fun v W => NewB w l v W) ((clone_c (Own.sl ow_b) (by omega)).mono fun _ _ h => h) (by rfl) rfl (by kernel_rfl) rfl ?_
 (try simp only [Act.put, mA, mB, mC])
 rintro v_c1 W1 hnb
 have hO := hnb.off
 have ow_c1 := hnb.own
 have at_c1 : Of (Value.ownBlock v_c1) none w.heap.size := hnb.fr
 clear hnb
 have fr_c1 : Fr (Value.ownBlock v_c1) w.heap.size [] := own_fr at_c1 fr_none off0.size
 replace off0 := off0.o hO
 clear hO at_c1
 refine Lv ?_
 refine Lw ?_ (v := .int .i64 0)
 refine wpL_nil ?_
 go_wp2
 refine bodyPost_ret (v := .tuple #[v_c1, .int .i64 0]) (by simp only [results, Try.results56]; go_simp) rfl ⟨_, rfl, ow_c1, off0, fr_c1⟩
end Go.Proofs.Ytlbgelbhhibikaa.Ww

namespace Go.Proofs.Ytlbgelbhhibikaa.Ww
set_option maxHeartbeats 4000000
set_option maxRecDepth 100000
open Go.RowKit
variable {bad : Bool}
theorem wnum_c (n : Int) (X : Nat) (hx : n % 18446744073709551616 = (X : Int)) (p : Nat) (v : Value) (l : List UInt8) (big : Bool) (w : World) (hwr : Wr bad w p v l big) (hl : l.length < 140737488355320) :
  Calls Try.prog 29 #[.pointer (some ⟨p, 0, none⟩), .int .i64 n] w fun e w' => e = .returned (.tuple #[]) ∧ ∃ v', WrTo bad w p v (l ++ be8 X) big v' w' := by
 have hx2 : IntKind.wrap .u64 n = (X : Int) := by rw [IntKind.wrap_u64]; exact hx
 have x0 : (0 : Int) ≤ (X : Int) := Int.natCast_nonneg _
 have x1 : (X : Int) < 18446744073709551616 := by omega
 have off0 : Off (p :: v.ownBlock.toList) w w := Off.refl _ _
 obtain ⟨k_p, ow_b⟩ := hwr
 have ne_b_p := ow_b.ne_blk k_p (by decide)
 have fb_p : Fb p w.heap.size (p :: v.ownBlock.toList) := fun _ => by simp
 have fr_b : Fr (Value.ownBlock v) w.heap.size (p :: v.ownBlock.toList) := fun x hx _ => by simp [hx]
 go_enter Try.func29, Try.ntmps29
 go_wp2_with fail
 refine wp_loop_rounds 9 ?_
 rw [rounds_succ]
 go_upto_region 3 with fail
 refine wp_region_lit ?_
 refine Lv ?_
 refine Lv ?_
 refine Lw ?_ (v := .int .u64 (X : Int)) (hv := by go_simp; (try simp only [hx2]))
 refine Lw ?_ (v := .int .i64 7)
 refine Lw ?_ (v := .int .i64 56)
 refine Lv ?_
 refine Lw ?_ (v := .int .u8 ((X / 72057594037927936 % 256 : Nat) : Int)) (hv := by go_simp; (try simp only [IntKind.wrap_u8, IntKind.wrap_i64]); (try omega))
 refine Lw ?_ (v := .int .i64 ((X / 72057594037927936 % 256 : Nat) : Int)) (hv := by go_simp; (try simp only [IntKind.wrap_u8, IntKind.wrap_i64]); (try omega))
 refine Lc ?_ (wbyte_n (n := X / 72057594037927936 % 256) (by omega) ⟨k_p, ow_b⟩ (by first | omega | (simp only [List.length_append, List.length_cons, List.length_nil]; omega)))
 rintro W1 ⟨v_b1, hto⟩
 have at_b1 := hto.fr
 have hO := hto.off
 have kk := hto.wr.1
 have ow_b1 := hto.wr.2
 clear hto
 have ne_b1_p := own_ne at_b1 ne_b_p (blk_lt k_p)
 have fr_b1 := own_fr at_b1 fr_b off0.size
 replace off0 := off0.step hO (ic fb_p (io fr_b))
 replace k_p := kk
 have ne_b1_p := Own.ne_blk ow_b1 k_p (by decide)
 clear hO at_b1 kk
 refine wpL_nil ?_
 go_wp2_with fail
 rw [rounds_succ]
 go_upto_region 3 with fail
 refine wp_region_lit ?_
 refine Lv ?_
 refine Lv ?_
 refine Lw ?_ (v := .int .u64 (X : Int)) (hv := by go_simp; (try simp only [hx2]))
 refine Lw ?_ (v := .int .i64 6)
 refine Lw ?_ (v := .int .i64 48)
 refine Lv ?_
 refine Lw ?_ (v := .int .u8 ((X / 281474976710656 % 256 : Nat) : Int)) (hv := by go_simp; (try simp only [IntKind.wrap_u8, IntKind.wrap_i64]); (try omega))
 refine Lw ?_ (v := .int .i64 ((X / 281474976710656 % 256 : Nat) : Int)) (hv := by go_simp; (try simp only [IntKind.wrap_u8, IntKind.wrap_i64]); (try omega))
 refine Lc ?_ (wbyte_n (n := X / 281474976710656 % 256) (by omega) ⟨k_p, ow_b1⟩ (by first | omega | (simp only [List.length_append, List.length_cons, List.length_nil]; omega)))
 rintro W2 ⟨v_b2, hto⟩
 have at_b2 := hto.fr
 have hO := hto.off
 have kk := hto.wr.1
 have ow_b2 := hto.wr.2
 clear hto
 have ne_b2_p := own_ne at_b2 ne_b1_p (blk_lt k_p)
 have fr_b2 := own_fr at_b2 fr_b1 off0.size
 replace off0 := off0.step hO (ic fb_p (io fr_b1))
 replace k_p := kk
 have ne_b2_p := Own.ne_blk ow_b2 k_p (by decide)
 clear hO at_b2 kk
 refine wpL_nil ?_
 go_wp2_with fail
 rw [rounds_succ]
 go_upto_region 3 with fail
 refine wp_region_lit ?_
 refine Lv ?_
 refine Lv ?_
 refine Lw ?_ (v := .int .u64 (X : Int)) (hv := by go_simp; (try simp only [hx2]))
 refine Lw ?_ (v := .int .i64 5)
 refine Lw ?_ (v := .int .i64 40)
 refine Lv ?_
 refine Lw ?_ (v := .int .u8 ((X / 1099511627776 % 256 : Nat) : Int)) (hv := by go_simp; (try simp only [IntKind.wrap_u8, IntKind.wrap_i64]); (try omega))
 refine Lw ?_ (v := .int .i64 ((X / 1099511627776 % 256 : Nat) : Int)) (hv := by go_simp; (try simp only [IntKind.wrap_u8, IntKind.wrap_i64]); (try omega))
 refine Lc ?_ (wbyte_n (n := X / 1099511627776 % 256) (by omega) ⟨k_p, ow_b2⟩ (by first | omega | (simp only [List.length_append, List.length_cons, List.length_nil]; omega)))
 rintro W3 ⟨v_b3, hto⟩
 have at_b3 := hto.fr
 have hO := hto.off
 have kk := hto.wr.1
 have ow_b3 := hto.wr.2
 clear hto
 have ne_b3_p := own_ne at_b3 ne_b2_p (blk_lt k_p)
 have fr_b3 := own_fr at_b3 fr_b2 off0.size
 replace off0 := off0.step hO (ic fb_p (io fr_b2))
 replace k_p := kk
 have ne_b3_p := Own.ne_blk ow_b3 k_p (by decide)
 clear hO at_b3 kk
 refine wpL_nil ?_
 go_wp2_with fail
 rw [rounds_succ]
 go_upto_region 3 with fail
 refine wp_region_lit ?_
 refine Lv ?_
 refine Lv ?_
 refine Lw ?_ (v := .int .u64 (X : Int)) (hv := by go_simp; (try simp only [hx2]))
 refine Lw ?_ (v := .int .i64 4)
 refine Lw ?_ (v := .int .i64 32)
 refine Lv ?_
 refine Lw ?_ (v := .int .u8 ((X / 4294967296 % 256 : Nat) : Int)) (hv := by go_simp; (try simp only [IntKind.wrap_u8, IntKind.wrap_i64]); (try omega))
 refine Lw ?_ (v := .int .i64 ((X / 4294967296 % 256 : Nat) : Int)) (hv := by go_simp; (try simp only [IntKind.wrap_u8, IntKind.wrap_i64]); (try omega))
 refine Lc ?_ (wbyte_n (n := X / 4294967296 % 256) (by omega) ⟨k_p, ow_b3⟩ (by first | omega | (simp only [List.length_append, List.length_cons, List.length_nil]; omega)))
 rintro W4 ⟨v_b4, hto⟩
 have at_b4 := hto.fr
 have hO := hto.off
 have kk := hto.wr.1
 have ow_b4 := hto.wr.2
 clear hto
 have ne_b4_p := own_ne at_b4 ne_b3_p (blk_lt k_p)
 have fr_b4 := own_fr at_b4 fr_b3 off0.size
 replace off0 := off0.step hO (ic fb_p (io fr_b3))
 replace k_p := kk
 have ne_b4_p := Own.ne_blk ow_b4 k_p (by decide)
 clear hO at_b4 kk
 refine wpL_nil ?_
 go_wp2_with fail
 rw [rounds_succ]
 go_upto_region 3 with fail
 refine wp_region_lit ?_
 refine Lv ?_
 refine Lv ?_
 refine Lw ?_ (v := .int .u64 (X : Int)) (hv := by go_simp; (try simp only [hx2]))
 refine Lw ?_ (v := .int .i64 3)
 refine Lw ?_ (v := .int .i64 24)
 refine Lv ?_
 refine Lw ?_ (v := .int .u8 ((X / 16777216 % 256 : Nat) : Int)) (hv := by go_simp; (try simp only [IntKind.wrap_u8, IntKind.wrap_i64]); (try omega))
 refine Lw ?_ (v := .int .i64 ((X / 16777216 % 256 : Nat) : Int)) (hv := by go_simp; (try simp only [IntKind.wrap_u8, IntKind.wrap_i64]); (try omega))
 refine Lc ?_ (wbyte_n (n := X / 16777216 % 256) (by omega) ⟨k_p, ow_b4⟩ (by first | omega | (simp only [List.length_append, List.length_cons, List.length_nil]; omega)))
 rintro W5 ⟨v_b5, hto⟩
 have at_b5 := hto.fr
 have hO := hto.off
 have kk := hto.wr.1
 have ow_b5 := hto.wr.2
 clear hto
 have ne_b5_p := own_ne at_b5 ne_b4_p (blk_lt k_p)
 have fr_b5 := own_fr at_b5 fr_b4 off0.size
 replace off0 := off0.step hO (ic fb_p (io fr_b4))
 replace k_p := kk
 have ne_b5_p := Own.ne_blk ow_b5 k_p (by decide)
 clear hO at_b5 kk
 refine wpL_nil ?_
 go_wp2_with fail
 rw [rounds_succ]
 go_upto_region 3 with fail
 refine wp_region_lit ?_
 refine Lv ?_
 refine Lv ?_
 refine Lw ?_ (v := .int .u64 (X : Int)) (hv := by go_simp; (try simp only [hx2]))
 refine Lw ?_ (v := .int .i64 2)
 refine Lw ?_ (v := .int .i64 16)
 refine Lv ?_
 refine Lw ?_ (v := .int .u8 ((X / 65536 % 256 : Nat) : Int)) (hv := by go_simp; (try simp only [IntKind.wrap_u8, IntKind.wrap_i64]); (try omega))
 refine Lw ?_ (v := .int .i64 ((X / 65536 % 256 : Nat) : Int)) (hv := by go_simp; (try simp only [IntKind.wrap_u8, IntKind.wrap_i64]); (try omega))
 refine Lc ?_ (wbyte_n (n := X / 65536 % 256) (by omega) ⟨k_p, ow_b5⟩ (by first | omega | (simp only [List.length_append, List.length_cons, List.length_nil]; omega)))
 rintro W6 ⟨v_b6, hto⟩
 have at_b6 := hto.fr
 have hO := hto.off
 have kk := hto.wr.1
 have ow_b6 := hto.wr.2
 clear hto
 have ne_b6_p := own_ne at_b6 ne_b5_p (blk_lt k_p)
 have fr_b6 := own_fr at_b6 fr_b5 off0.size
 replace off0 := off0.step hO (ic fb_p (io fr_b5))
 replace k_p := kk
 have ne_b6_p := Own.ne_blk ow_b6 k_p (by decide)
 clear hO at_b6 kk
 refine wpL_nil ?_
 go_wp2_with fail
 rw [rounds_succ]
 go_upto_region 3 with fail
 refine wp_region_lit ?_
 refine Lv ?_
 refine Lv ?_
 refine Lw ?_ (v := .int .u64 (X : Int)) (hv := by go_simp; (try simp only [hx2]))
 refine Lw ?_ (v := .int .i64 1)
 refine Lw ?_ (v := .int .i64 8)
 refine Lv ?_
 refine Lw ?_ (v := .int .u8 ((X / 256 % 256 : Nat) : Int)) (hv := by go_simp; (try simp only [IntKind.wrap_u8, IntKind.wrap_i64]); (try omega))
 refine Lw ?_ (v := .int .i64 ((X / 256 % 256 : Nat) : Int)) (hv := by go_simp; (try simp only [IntKind.wrap_u8, IntKind.wrap_i64]); (try omega))
 refine Lc ?_ (wbyte_n (n := X / 256 % 256) (by omega) ⟨k_p, ow_b6⟩ (by first | omega | (simp only [List.length_append, List.length_cons, List.length_nil]; omega)))
 rintro W7 ⟨v_b7, hto⟩
 have at_b7 := hto.fr
 have hO := hto.off
 have kk := hto.wr.1
 have ow_b7 := hto.wr.2
 clear hto
 have ne_b7_p := own_ne at_b7 ne_b6_p (blk_lt k_p)
 have fr_b7 := own_fr at_b7 fr_b6 off0.size
 replace off0 := off0.step hO (ic fb_p (io fr_b6))
 replace k_p := kk
 have ne_b7_p := Own.ne_blk ow_b7 k_p (by decide)
 clear hO at_b7 kk
 refine wpL_nil ?_
 go_wp2_with fail
 rw [rounds_succ]
 go_upto_region 3 with fail
 refine wp_region_lit ?_
 refine Lv ?_
 refine Lv ?_
 refine Lw ?_ (v := .int .u64 (X : Int)) (hv := by go_simp; (try simp only [hx2]))
 refine Lw ?_ (v := .int .i64 0)
 refine Lw ?_ (v := .int .i64 0)
 refine Lv ?_
 refine Lw ?_ (v := .int .u8 ((X % 256 : Nat) : Int)) (hv := by go_simp; (try simp only [IntKind.wrap_u8, IntKind.wrap_i64]); (try omega))
 refine Lw ?_ (v := .int .i64 ((X % 256 : Nat) : Int)) (hv := by go_simp; (try simp only [IntKind.wrap_u8, IntKind.wrap_i64]); (try omega))
 refine Lc ?_ (wbyte_n (n := X % 256) (by omega) ⟨k_p, ow_b7⟩ (by first | omega | (simp only [List.length_append, List.length_cons, List.length_nil]; omega)))
 rintro W8 ⟨v_b8, hto⟩
 have at_b8 := hto.fr
 have hO := hto.off
 have kk := hto.wr.1
 have ow_b8 := hto.wr.2
 clear hto
 have ne_b8_p := own_ne at_b8 ne_b7_p (blk_lt k_p)
 have fr_b8 := own_fr at_b8 fr_b7 off0.size
 replace off0 := off0.step hO (ic fb_p (io fr_b7))
 replace k_p := kk
 have ne_b8_p := Own.ne_blk ow_b8 k_p (by decide)
 clear hO at_b8 kk
 refine wpL_nil ?_
 go_wp2_with fail
 rw [rounds_succ]
 go_wp2
 have e8 : (((((((l ++ [u8 (X / 72057594037927936 % 256)]) ++ [u8 (X / 281474976710656 % 256)]) ++ [u8 (X / 1099511627776 % 256)]) ++ [u8 (X / 4294967296 % 256)]) ++ [u8 (X / 16777216 % 256)]) ++ [u8 (X / 65536 % 256)]) ++ [u8 (X / 256 % 256)]) ++ [u8 (X % 256)] = l ++ be8 X := by simp only [u8_mod, be8, List.append_assoc, List.cons_append, List.nil_append]
 rw [e8] at ow_b8
 exact bodyPost_end (v := .tuple #[]) (by simp only [results, Try.results29]; go_simp) rfl ⟨rfl, _, ⟨k_p, ow_b8⟩, off0, fr_cons fr_b8 ne_b8_p⟩
end Go.Proofs.Ytlbgelbhhibikaa.Ww

namespace Go.Proofs.Ytlbgelbhhibikaa.Ww
set_option maxHeartbeats 4000000
set_option maxRecDepth 100000
open Go.RowKit
variable {bad : Bool}
theorem wsum_c (s : List UInt8) (hs : s.length = 32) (p : Nat) (v : Value) (l : List UInt8) (big : Bool) (w : World) (hwr : Wr bad w p v l big) (hl : l.length < 140737488355290) :
  Calls Try.prog 48 #[.pointer (some ⟨p, 0, none⟩), .agg (bs8 s).toArray] w fun e w' => e = .returned (.tuple #[]) ∧ ∃ v', WrTo bad w p v (l ++ s) big v' w' := by
 have off0 : Off (p :: v.ownBlock.toList) w w := Off.refl _ _
 obtain ⟨k_p, ow_b⟩ := hwr
 have ne_b_p := ow_b.ne_blk k_p (by decide)
 have fb_p : Fb p w.heap.size (p :: v.ownBlock.toList) := fun _ => by simp
 have fr_b : Fr (Value.ownBlock v) w.heap.size (p :: v.ownBlock.toList) := fun x hx _ => by simp [hx]
 go_enter Try.func48, Try.ntmps48
 go_upto_region 0 with fail
 refine wp_region_lit ?_
 refine Ln ?_ (z := (bs8 s).toArray) (t := 27)
 intro p3_1 W1 n_t3 hO h_
 replace k_p := k_p.o hO
 replace ow_b := Own.off ow_b hO f0
 replace off0 := off0.o hO
 have k_t3 := h_
 clear hO h_ n_t3
 refine wpL_nil ?_
 go_upto_region 2 with fail
 refine wp_region_xn 6 [] (by kernel_rfl) (fun x hx => by cases hx) (by kernel_rfl) ?_
 simp only [List.take_succ_cons, List.take_zero, List.take_nil]
 (try simp only [Act.put, mA, mB, mC])
 refine Xv ?_
 refine Xv ?_
 refine Xv ?_
 refine Xv ?_
 refine Xc ?_ (v := v) (blk_rd k_p)
 refine Xv ?_
 refine wpX_nil ?_
 intro β W2 hE hN hD
 clear hN hD
 simp only [putAll, Act.put, mA, mB, mC, List.drop_succ_cons, List.drop_zero, List.drop_nil, List.length_nil, Nat.add_zero]
 have hO := off_ext hE
 replace k_p := k_p.o hO
 replace k_t3 := k_t3.o hO
 replace ow_b := Own.off ow_b hO f0
 replace off0 := off0.o hO
 clear hO hE β
 have ow_arr : Sl W2 (.slice (some ⟨p3_1, 0, none⟩) 32 32) s := sl_blk k_t3 hs.symm (Nat.le_refl _) (by decide) (fun j x hj => by rw [Nat.zero_add]; simpa using bs8_get hj)
 refine wpL_append (xs := l) (ys := s) (by rfl) rfl rfl rfl ow_b ow_arr (by omega) ?_
 (try simp only [Act.put, mA, mB, mC])
 intro v12_3 W3 ow_a12 hO at_a12 nil_a12
 clear nil_a12
 have ne_a12_p := own_ne at_a12 ne_b_p (blk_lt k_p)
 have fr_a12 := own_fr at_a12 fr_b off0.size
 replace k_p := blk_off k_p hO (nmo ne_b_p)
 replace off0 := off0.step hO (io fr_b)
 clear hO at_a12
 refine Lv ?_
 refine Lv ?_
 refine wpL_put1 (v := v12_3) (own_cells ow_a12) (by rfl) rfl rfl rfl k_p (by show 0 < 3; decide) (by kernel_rfl) ?_
 (try simp only [Act.put, mA, mB, mC])
 intro W4 hO h_
 replace k_p : Blk W4 p #[v12_3, .bool big, .bool bad] 96 := h_
 clear h_
 replace ow_a12 := Own.off ow_a12 hO (f1 ne_a12_p)
 replace off0 := off0.p hO fb_p
 clear hO
 refine LN ?_
 go_wp2
 exact bodyPost_end (v := .tuple #[]) (by simp only [results, Try.results48]; go_simp) rfl ⟨rfl, _, ⟨k_p, ow_a12⟩, off0, fr_cons fr_a12 ne_a12_p⟩
end Go.Proofs.Ytlbgelbhhibikaa.Ww

namespace Go.Proofs.Ytlbgelbhhibikaa.Ww
set_option maxHeartbeats 4000000
set_option maxRecDepth 100000
open Go.RowKit
variable {bad : Bool}
end Go.Proofs.Ytlbgelbhhibikaa.Ww

namespace Go.Proofs.Ytlbgelbhhibikaa.Ww
set_option maxHeartbeats 4000000
set_option maxRecDepth 100000
open Go.RowKit
variable {bad : Bool}
theorem wtext_c (p : Nat) (v : Value) (l : List UInt8) (big : Bool) (w : World) (hwr : Wr bad w p v l big) (u : Value) (m : List UInt8) (hu : Sl w u m) (hm : m.length ≤ 65535) (hup : sb u m ≠ some p) (hub : ∀ x, v.ownBlock = some x → sb u m ≠ some x) (hl : l.length < 140737488280000) :
  Calls Try.prog 55 #[.pointer (some ⟨p, 0, none⟩), u] w fun e w' => e = .returned (.tuple #[]) ∧ ∃ v', WrTo bad w p v (l ++ [u8 (m.length / 256), u8 m.length] ++ m) big v' w' := by
 obtain ⟨A, c, rfl, hc1, hc2, hc3, hc4⟩ := id hu
 have off0 : Off (p :: v.ownBlock.toList) w w := Off.refl _ _
 obtain ⟨k_p, ow_b⟩ := hwr
 have ne_b_p := ow_b.ne_blk k_p (by decide)
 have fb_p : Fb p w.heap.size (p :: v.ownBlock.toList) := fun _ => by simp
 have fr_b : Fr (Value.ownBlock v) w.heap.size (p :: v.ownBlock.toList) := fun x hx _ => by simp [hx]
 have ow_t := hu
 have dj_b_t := hub
 go_enter Try.func55, Try.ntmps55
 go_upto_region 2 with fail
 refine wp_region_lit ?_
 refine Lv ?_
 refine wpL_len (l := m) ow_t (by rfl) rfl rfl ?_
 (try simp only [Act.put, mA, mB, mC])
 refine Lw ?_ (v := .bool false)
 refine Lw ?_ (v := .bool false)
 refine wpL_nil ?_
 go_upto_region 0 with fail
 refine wp_region_lit ?_
 refine Lv ?_
 refine Lv ?_
 refine Lv ?_
 refine Lv ?_
 refine Lg ?_ k_p (v := v)
 refine Lv ?_
 refine wpL_len (l := m) ow_t (by rfl) rfl rfl ?_
 (try simp only [Act.put, mA, mB, mC])
 refine Lv ?_
 refine Lw ?_ (v := .int .u8 ((u8 (m.length / 256)).toNat : Int)) (hv := by go_simp; (try simp only [u8_nat, IntKind.wrap_u8]); omega)
 refine Lv ?_
 refine wpL_len (l := m) ow_t (by rfl) rfl rfl ?_
 (try simp only [Act.put, mA, mB, mC])
 refine Lw ?_ (v := .int .u8 ((u8 m.length).toNat : Int)) (hv := by go_simp; (try simp only [u8_nat, IntKind.wrap_u8]); omega)
 refine LnS ?_ (z := #[.int .u8 ((u8 (m.length / 256)).toNat : Int), .int .u8 ((u8 m.length).toNat : Int)]) (t := 5) (n := 2) (c := 2)
 intro p16_1 W1 n_s16 hO h_
 replace k_p := k_p.o hO
 replace ow_b := Own.off ow_b hO f0
 replace ow_t := Sl.off ow_t hO f0
 replace off0 := off0.o hO
 have ow_s16 : Own W1 (.slice (some ⟨p16_1, 0, none⟩) 2 2) [u8 (m.length / 256), u8 m.length] := own_blk h_ (by rfl) (by show 2 ≤ maxLen; decide)
 clear hO h_ n_s16
 refine wpL_append (xs := l) (ys := [u8 (m.length / 256), u8 m.length]) (by rfl) rfl rfl rfl ow_b (Own.sl ow_s16) (by first | omega | (simp only [List.length_append, List.length_cons, List.length_nil]; omega)) ?_
 (try simp only [Act.put, mA, mB, mC])
 intro v17_2 W2 ow_a17 hO at_a17 nil_a17
 clear nil_a17
 have ne_a17_p := own_ne at_a17 ne_b_p (blk_lt k_p)
 have fr_a17 := own_fr at_a17 fr_b off0.size
 replace k_p := blk_off k_p hO (nmo ne_b_p)
 replace ow_t := Sl.off ow_t hO (fo dj_b_t)
 replace off0 := off0.step hO (io fr_b)
 clear hO at_a17
 refine Lv ?_
 refine wpL_append (xs := (l ++ [u8 (m.length / 256), u8 m.length])) (ys := m) (by rfl) rfl rfl rfl ow_a17 ow_t (by first | omega | (simp only [List.length_append, List.length_cons, List.length_nil]; omega)) ?_
 (try simp only [Act.put, mA, mB, mC])
 intro v19_3 W3 ow_a19 hO at_a19 nil_a19
 clear nil_a19
 have ne_a19_p := own_ne at_a19 ne_a17_p (blk_lt k_p)
 have fr_a19 := own_fr at_a19 fr_a17 off0.size
 replace k_p := blk_off k_p hO (nmo ne_a17_p)
 replace off0 := off0.step hO (io fr_a17)
 clear hO at_a19
 refine Lv ?_
 refine Lv ?_
 refine wpL_put1 (v := v19_3) (own_cells ow_a19) (by rfl) rfl rfl rfl k_p (by show 0 < 3; decide) (by kernel_rfl) ?_
 (try simp only [Act.put, mA, mB, mC])
 intro W4 hO h_
 replace k_p : Blk W4 p #[v19_3, .bool big, .bool bad] 96 := h_
 clear h_
 replace ow_a19 := Own.off ow_a19 hO (f1 ne_a19_p)
 replace off0 := off0.p hO fb_p
 clear hO
 refine wpL_nil ?_
 go_wp2
 exact bodyPost_end (v := .tuple #[]) (by simp only [results, Try.results55]; go_simp) rfl ⟨rfl, _, ⟨k_p, ow_a19⟩, off0, fr_cons fr_a19 ne_a19_p⟩
end Go.Proofs.Ytlbgelbhhibikaa.Ww
