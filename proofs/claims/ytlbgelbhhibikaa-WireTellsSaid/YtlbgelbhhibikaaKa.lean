/- codec: the Writer; the Reader, where the part is there. Conditions: memory holds what is written. -/
import Derived.Test.YtlbgelbhhibikaaGc
import Derived.Test.YtlbgelbhhibikaaGd
import Derived.Test.YtlbgelbhhibikaaJ11
set_option linter.unusedSimpArgs false
set_option linter.unusedVariables false
namespace Go.Proofs.Ytlbgelbhhibikaa
set_option maxHeartbeats 4000000
set_option maxRecDepth 100000
open Go.RowKit
/-- A new row of bytes. -/
structure NewB (w : World) (l : List UInt8) (v : Value) (w' : World) : Prop where
  own : Own w' v l
  off : Off [] w w'
  fr : Fr v.ownBlock w.heap.size []
end Go.Proofs.Ytlbgelbhhibikaa

namespace Go.Proofs.Ytlbgelbhhibikaa
set_option maxHeartbeats 4000000
set_option maxRecDepth 100000
open Go.RowKit
theorem clone_nil (w : World) :
  Calls Try.prog 60 #[.slice none 0 0] w fun e w' => ∃ v, e = .returned v ∧ NewB w [] v w' := by
 have off0 : Off [] w w := Off.refl _ _
 go_enter Try.func60, Try.ntmps60
 go_upto_region 1 with fail
 refine wp_region_lit ?_
 refine Lv ?_
 refine Lw ?_ (v := .bool true)
 refine wpL_nil ?_
 go_wp2
 exact bodyPost_ret (v := .slice none 0 0) (by simp only [results, Try.results60]; go_simp) rfl ⟨_, rfl, own_nil _, off0, fr_none⟩
end Go.Proofs.Ytlbgelbhhibikaa

namespace Go.Proofs.Ytlbgelbhhibikaa
set_option maxHeartbeats 4000000
set_option maxRecDepth 100000
open Go.RowKit
theorem clone_some (ad : Addr) (c : Nat) (l : List UInt8) (w : World) (hs : Sl w (.slice (some ad) l.length c) l) (hl : l.length ≤ 140737488355328) :
  Calls Try.prog 60 #[.slice (some ad) l.length c] w fun e w' => ∃ v, e = .returned v ∧ NewB w ([] ++ l) v w' := by
 have off0 : Off [] w w := Off.refl _ _
 have ow_a := hs
 go_enter Try.func60, Try.ntmps60
 go_upto_region 1 with fail
 refine wp_region_lit ?_
 refine Lv ?_
 refine Lw ?_ (v := .bool false)
 refine wpL_nil ?_
 go_upto_region 3 with fail
 refine wp_region_lit ?_
 refine LnS ?_ (z := #[]) (t := 5) (n := 0) (c := 0)
 intro p5_1 W1 n_s5 hO h_
 have fr_s5 : Fr (Value.ownBlock (.slice (some ⟨p5_1, 0, none⟩) 0 0)) w.heap.size [] := frn off0 n_s5
 replace ow_a := Sl.off ow_a hO f0
 replace off0 := off0.o hO
 have ow_s5 : Own W1 (.slice (some ⟨p5_1, 0, none⟩) 0 0) [] := own_blk h_ (by rfl) (by show 0 ≤ maxLen; decide)
 clear hO h_ n_s5
 refine Lv ?_
 refine wpL_append (xs := []) (ys := l) (by rfl) rfl rfl rfl ow_s5 ow_a (by first | omega | (simp only [List.length_append, List.length_cons, List.length_nil]; omega)) ?_
 (try simp only [Act.put, mA, mB, mC])
 intro v7_2 W2 ow_a7 hO at_a7 nil_a7
 clear nil_a7
 have fr_a7 := own_fr at_a7 fr_s5 off0.size
 replace off0 := off0.step hO (io fr_s5)
 clear hO at_a7
 refine Lv ?_
 refine wpL_nil ?_
 go_wp2
 exact bodyPost_ret (v := v7_2) (by simp only [results, Try.results60]; go_simp) rfl ⟨_, rfl, ow_a7, off0, fr_a7⟩
end Go.Proofs.Ytlbgelbhhibikaa

namespace Go.Proofs.Ytlbgelbhhibikaa
set_option maxHeartbeats 4000000
set_option maxRecDepth 100000
open Go.RowKit
theorem clone_c {u : Value} {l : List UInt8} {w : World} (hs : Sl w u l) (hl : l.length ≤ 140737488355328) : Calls Try.prog 60 #[u] w fun e w' => ∃ v, e = .returned v ∧ NewB w l v w' := by
  obtain ⟨A, c, rfl, h1, h2, h0, h3⟩ := hs
  rcases A with _ | ad
  · have : l = [] := by
      cases l with
      | nil => rfl
      | cons x r => obtain ⟨ad, h, _⟩ := h3 0 x rfl; cases h
    subst this
    rw [h0 rfl]
    exact clone_nil w
  · exact clone_some ad c l w ⟨some ad, c, rfl, h1, h2, h0, h3⟩ hl
end Go.Proofs.Ytlbgelbhhibikaa

namespace Go.Proofs.Ytlbgelbhhibikaa
set_option maxHeartbeats 4000000
set_option maxRecDepth 100000
open Go.RowKit
/-- A writer: its row of bytes, and whether something was too big. -/
def Wr (w : World) (p : Nat) (v : Value) (l : List UInt8) (big : Bool) : Prop := Blk w p #[v, .bool big] 94 ∧ Own w v l
end Go.Proofs.Ytlbgelbhhibikaa

namespace Go.Proofs.Ytlbgelbhhibikaa
set_option maxHeartbeats 4000000
set_option maxRecDepth 100000
open Go.RowKit
/-- What a writer's method leaves. -/
structure WrTo (w : World) (p : Nat) (v : Value) (l : List UInt8) (big : Bool) (v' : Value) (w' : World) : Prop where
  wr : Wr w' p v' l big
  off : Off (p :: v.ownBlock.toList) w w'
  fr : Fr v'.ownBlock w.heap.size v.ownBlock.toList
end Go.Proofs.Ytlbgelbhhibikaa

namespace Go.Proofs.Ytlbgelbhhibikaa
set_option maxHeartbeats 4000000
set_option maxRecDepth 100000
open Go.RowKit
theorem fr_cons {O : Option Nat} {n b : Nat} {F : List Nat} (h : Fr O n (b :: F)) (hb : O ≠ some b) : Fr O n F := fun x hx hn => (List.mem_cons.1 (h x hx hn)).resolve_left fun e => hb (by rw [← e]; exact hx)
end Go.Proofs.Ytlbgelbhhibikaa

namespace Go.Proofs.Ytlbgelbhhibikaa
set_option maxHeartbeats 4000000
set_option maxRecDepth 100000
open Go.RowKit
theorem wrap_u8 (c : UInt8) : IntKind.wrap .u8 (c.toNat : Int) = c.toNat := by
  have := c.toNat_lt
  rw [IntKind.wrap_u8]; omega
end Go.Proofs.Ytlbgelbhhibikaa

namespace Go.Proofs.Ytlbgelbhhibikaa
set_option maxHeartbeats 4000000
set_option maxRecDepth 100000
open Go.RowKit
theorem wbyte_in (p : Nat) (c : UInt8) (v : Value) (l : List UInt8) (big : Bool) (w : World) (hwr : Wr w p v l big) (hl : l.length < 140737488355328) :
  Calls Try.prog 26 #[.pointer (some ⟨p, 0, none⟩), .int .i64 (c.toNat : Int)] w fun e w' => e = .returned (.tuple #[]) ∧ ∃ v', WrTo w p v (l ++ [c]) big v' w' := by
 have c0 : (0 : Int) ≤ (c.toNat : Int) := Int.natCast_nonneg _
 have c1 : (c.toNat : Int) ≤ 255 := by have := c.toNat_lt; omega
 have wc := wrap_u8 c
 have off0 : Off (p :: v.ownBlock.toList) w w := Off.refl _ _
 obtain ⟨k_p, ow_b⟩ := hwr
 have ne_b_p := ow_b.ne_blk k_p (by decide)
 have fb_p : Fb p w.heap.size (p :: v.ownBlock.toList) := fun _ => by simp
 have fr_b : Fr (Value.ownBlock v) w.heap.size (p :: v.ownBlock.toList) := fun x hx _ => by simp [hx]
 go_enter Try.func26, Try.ntmps26
 go_upto_region 0 with fail
 refine wp_region_lit ?_
 refine Lv ?_
 refine Lv ?_
 refine Lv ?_
 refine Lv ?_
 refine Lg ?_ k_p (v := v)
 refine Lv ?_
 refine Lw ?_ (v := .int .u8 (c.toNat : Int))
 refine LnS ?_ (z := #[.int .u8 (c.toNat : Int)]) (t := 5) (n := 1) (c := 1)
 intro p11_1 W1 n_s11 hO h_
 replace k_p := k_p.o hO
 replace ow_b := Own.off ow_b hO f0
 replace off0 := off0.o hO
 have ow_s11 : Own W1 (.slice (some ⟨p11_1, 0, none⟩) 1 1) [c] := own_blk h_ (by rfl) (by show 1 ≤ maxLen; decide)
 clear hO h_ n_s11
 refine wpL_append (xs := l) (ys := [c]) (by rfl) rfl rfl rfl ow_b (Own.sl ow_s11) (by first | omega | (simp only [List.length_append, List.length_cons, List.length_nil]; omega)) ?_
 (try simp only [Act.put, mA, mB, mC])
 intro v12_2 W2 ow_a12 hO at_a12 nil_a12
 clear nil_a12
 have ne_a12_p := own_ne at_a12 ne_b_p (blk_lt k_p)
 have fr_a12 := own_fr at_a12 fr_b off0.size
 replace k_p := blk_off k_p hO (nmo ne_b_p)
 replace off0 := off0.step hO (io fr_b)
 clear hO at_a12
 refine Lv ?_
 refine Lv ?_
 refine wpL_put1 (v := v12_2) (own_cells ow_a12) (by rfl) rfl rfl rfl k_p (by show 0 < 2; decide) (by kernel_rfl) ?_
 (try simp only [Act.put, mA, mB, mC])
 intro W3 hO h_
 replace k_p : Blk W3 p #[v12_2, .bool big] 94 := h_
 clear h_
 replace ow_a12 := Own.off ow_a12 hO (f1 ne_a12_p)
 replace off0 := off0.p hO fb_p
 clear hO
 refine wpL_nil ?_
 go_wp2
 exact bodyPost_end (v := .tuple #[]) (by simp only [results, Try.results26]; go_simp) rfl ⟨rfl, _, ⟨k_p, ow_a12⟩, off0, fr_cons fr_a12 ne_a12_p⟩
end Go.Proofs.Ytlbgelbhhibikaa

namespace Go.Proofs.Ytlbgelbhhibikaa
set_option maxHeartbeats 4000000
set_option maxRecDepth 100000
open Go.RowKit
theorem wbyte_out (p : Nat) (n : Int) (hn : n < 0 ∨ 255 < n) (v : Value) (l : List UInt8) (big : Bool) (w : World) (hwr : Wr w p v l big) :
  Calls Try.prog 26 #[.pointer (some ⟨p, 0, none⟩), .int .i64 n] w fun e w' => e = .returned (.tuple #[]) ∧ ∃ v', WrTo w p v l true v' w' := by
 have off0 : Off (p :: v.ownBlock.toList) w w := Off.refl _ _
 obtain ⟨k_p, ow_b⟩ := hwr
 have ne_b_p := ow_b.ne_blk k_p (by decide)
 have fb_p : Fb p w.heap.size (p :: v.ownBlock.toList) := fun _ => by simp
 have fr_b : Fr (Value.ownBlock v) w.heap.size (p :: v.ownBlock.toList) := fun x hx _ => by simp [hx]
 go_enter Try.func26, Try.ntmps26
 by_cases hx : n < 0
 ·
  have _f := hx
  go_upto_region 3 with fail
  refine wp_region_lit ?_
  refine Lv ?_
  refine Lv ?_
  refine Lv ?_
  refine wpL_put1 (v := .bool true) ⟨rfl, rfl⟩ (by rfl) rfl rfl rfl k_p (by show 1 < 2; decide) (by kernel_rfl) ?_
  (try simp only [Act.put, mA, mB, mC])
  intro W1 hO h_
  replace k_p : Blk W1 p #[v, .bool true] 94 := h_
  clear h_
  replace ow_b := Own.off ow_b hO (f1 ne_b_p)
  replace off0 := off0.p hO fb_p
  clear hO
  refine wpL_nil ?_
  go_wp2
  exact bodyPost_end (v := .tuple #[]) (by simp only [results, Try.results26]; go_simp) rfl ⟨rfl, _, ⟨k_p, ow_b⟩, off0, fr_cons fr_b ne_b_p⟩
 ·
  have _f := hx
  have hy : 255 < n := hn.resolve_left hx
  go_upto_region 3 with fail
  refine wp_region_lit ?_
  refine Lv ?_
  refine Lv ?_
  refine Lv ?_
  refine wpL_put1 (v := .bool true) ⟨rfl, rfl⟩ (by rfl) rfl rfl rfl k_p (by show 1 < 2; decide) (by kernel_rfl) ?_
  (try simp only [Act.put, mA, mB, mC])
  intro W1 hO h_
  replace k_p : Blk W1 p #[v, .bool true] 94 := h_
  clear h_
  replace ow_b := Own.off ow_b hO (f1 ne_b_p)
  replace off0 := off0.p hO fb_p
  clear hO
  refine wpL_nil ?_
  go_wp2
  exact bodyPost_end (v := .tuple #[]) (by simp only [results, Try.results26]; go_simp) rfl ⟨rfl, _, ⟨k_p, ow_b⟩, off0, fr_cons fr_b ne_b_p⟩
end Go.Proofs.Ytlbgelbhhibikaa

namespace Go.Proofs.Ytlbgelbhhibikaa
set_option maxHeartbeats 4000000
set_option maxRecDepth 100000
open Go.RowKit
end Go.Proofs.Ytlbgelbhhibikaa

namespace Go.Proofs.Ytlbgelbhhibikaa
set_option maxHeartbeats 4000000
set_option maxRecDepth 100000
open Go.RowKit
theorem wbyte_c {p : Nat} {n : Int} {v : Value} {l : List UInt8} {big : Bool} {w : World} (hwr : Wr w p v l big) (hl : l.length < 140737488355328) :
    Calls Try.prog 26 #[.pointer (some ⟨p, 0, none⟩), .int .i64 n] w fun e w' => e = .returned (.tuple #[]) ∧ ∃ v', WrTo w p v (if 0 ≤ n ∧ n ≤ 255 then l ++ [u8 n.toNat] else l) (big || !decide (0 ≤ n ∧ n ≤ 255)) v' w' := by
  by_cases h : 0 ≤ n ∧ n ≤ 255
  · have := wbyte_in p (u8 n.toNat) v l big w hwr hl
    have e : ((u8 n.toNat).toNat : Int) = n := by rw [u8_nat]; omega
    rw [e] at this
    rw [if_pos h, decide_eq_true h, Bool.not_true, Bool.or_false]
    exact this
  · rw [if_neg h, decide_eq_false h, Bool.not_false, Bool.or_true]
    exact wbyte_out p n (by omega) v l big w hwr
end Go.Proofs.Ytlbgelbhhibikaa

namespace Go.Proofs.Ytlbgelbhhibikaa
set_option maxHeartbeats 4000000
set_option maxRecDepth 100000
open Go.RowKit
theorem wbyte_n {p n : Nat} {v : Value} {l : List UInt8} {big : Bool} {w : World} (hn : n < 256) (hwr : Wr w p v l big) (hl : l.length < 140737488355328) :
    Calls Try.prog 26 #[.pointer (some ⟨p, 0, none⟩), .int .i64 (n : Int)] w fun e w' => e = .returned (.tuple #[]) ∧ ∃ v', WrTo w p v (l ++ [u8 n]) big v' w' := by
  have := wbyte_in p (u8 n) v l big w hwr hl
  have e : ((u8 n).toNat : Int) = n := by rw [u8_nat]; omega
  rw [e] at this
  exact this
end Go.Proofs.Ytlbgelbhhibikaa

namespace Go.Proofs.Ytlbgelbhhibikaa
set_option maxHeartbeats 4000000
set_option maxRecDepth 100000
open Go.RowKit
theorem u8_mod (n : Nat) : u8 (n % 256) = u8 n := by
  apply UInt8.toNat_inj.1
  rw [u8_nat, u8_nat, Nat.mod_mod]
end Go.Proofs.Ytlbgelbhhibikaa

namespace Go.Proofs.Ytlbgelbhhibikaa
set_option maxHeartbeats 4000000
set_option maxRecDepth 100000
open Go.RowKit
theorem wflag_true (p : Nat) (v : Value) (l : List UInt8) (big : Bool) (w : World) (hwr : Wr w p v l big) (hl : l.length < 140737488355328) :
  Calls Try.prog 62 #[.pointer (some ⟨p, 0, none⟩), .bool true] w fun e w' => e = .returned (.tuple #[]) ∧ ∃ v', WrTo w p v (l ++ [u8 1]) big v' w' := by
 have off0 : Off (p :: v.ownBlock.toList) w w := Off.refl _ _
 obtain ⟨k_p, ow_b⟩ := hwr
 have ne_b_p := ow_b.ne_blk k_p (by decide)
 have fb_p : Fb p w.heap.size (p :: v.ownBlock.toList) := fun _ => by simp
 have fr_b : Fr (Value.ownBlock v) w.heap.size (p :: v.ownBlock.toList) := fun x hx _ => by simp [hx]
 go_enter Try.func62, Try.ntmps62
 go_upto_region 3 with fail
 refine wp_region_lit ?_
 refine Lv ?_
 refine Lw ?_ (v := .int .i64 1)
 refine Lc ?_ (wbyte_n (n := 1) (by decide) ⟨k_p, ow_b⟩ (by omega))
 rintro W1 ⟨v_b1, hto⟩
 have at_b1 := hto.fr
 have hO := hto.off
 have kk := hto.wr.1
 have ow_b1 := hto.wr.2
 clear hto
 have ne_b1_p := own_ne at_b1 ne_b_p (blk_lt k_p)
 have fr_b1 := own_fr at_b1 fr_b off0.size
 replace off0 := off0.step hO (ic fb_p (io fr_b))
 replace k_p := kk
 have ne_b1_p := Own.ne_blk ow_b1 k_p (by decide)
 clear hO at_b1 kk
 refine wpL_nil ?_
 go_wp2
 exact bodyPost_end (v := .tuple #[]) (by simp only [results, Try.results62]; go_simp) rfl ⟨rfl, _, ⟨k_p, ow_b1⟩, off0, fr_cons fr_b1 ne_b1_p⟩
end Go.Proofs.Ytlbgelbhhibikaa

namespace Go.Proofs.Ytlbgelbhhibikaa
set_option maxHeartbeats 4000000
set_option maxRecDepth 100000
open Go.RowKit
theorem wflag_false (p : Nat) (v : Value) (l : List UInt8) (big : Bool) (w : World) (hwr : Wr w p v l big) (hl : l.length < 140737488355328) :
  Calls Try.prog 62 #[.pointer (some ⟨p, 0, none⟩), .bool false] w fun e w' => e = .returned (.tuple #[]) ∧ ∃ v', WrTo w p v (l ++ [u8 0]) big v' w' := by
 have off0 : Off (p :: v.ownBlock.toList) w w := Off.refl _ _
 obtain ⟨k_p, ow_b⟩ := hwr
 have ne_b_p := ow_b.ne_blk k_p (by decide)
 have fb_p : Fb p w.heap.size (p :: v.ownBlock.toList) := fun _ => by simp
 have fr_b : Fr (Value.ownBlock v) w.heap.size (p :: v.ownBlock.toList) := fun x hx _ => by simp [hx]
 go_enter Try.func62, Try.ntmps62
 go_upto_region 3 with fail
 refine wp_region_lit ?_
 refine Lv ?_
 refine Lw ?_ (v := .int .i64 0)
 refine Lc ?_ (wbyte_n (n := 0) (by decide) ⟨k_p, ow_b⟩ (by omega))
 rintro W1 ⟨v_b1, hto⟩
 have at_b1 := hto.fr
 have hO := hto.off
 have kk := hto.wr.1
 have ow_b1 := hto.wr.2
 clear hto
 have ne_b1_p := own_ne at_b1 ne_b_p (blk_lt k_p)
 have fr_b1 := own_fr at_b1 fr_b off0.size
 replace off0 := off0.step hO (ic fb_p (io fr_b))
 replace k_p := kk
 have ne_b1_p := Own.ne_blk ow_b1 k_p (by decide)
 clear hO at_b1 kk
 refine wpL_nil ?_
 go_wp2
 exact bodyPost_end (v := .tuple #[]) (by simp only [results, Try.results62]; go_simp) rfl ⟨rfl, _, ⟨k_p, ow_b1⟩, off0, fr_cons fr_b1 ne_b1_p⟩
end Go.Proofs.Ytlbgelbhhibikaa

namespace Go.Proofs.Ytlbgelbhhibikaa
set_option maxHeartbeats 4000000
set_option maxRecDepth 100000
open Go.RowKit
end Go.Proofs.Ytlbgelbhhibikaa

namespace Go.Proofs.Ytlbgelbhhibikaa
set_option maxHeartbeats 4000000
set_option maxRecDepth 100000
open Go.RowKit
theorem wbytes_false (p : Nat) (v : Value) (l : List UInt8) (w : World) (hwr : Wr w p v l false) (hl : l.length ≤ 140737488355328) :
  Calls Try.prog 56 #[.pointer (some ⟨p, 0, none⟩)] w fun e w' => ∃ u, e = .returned (.tuple #[u, .int .i64 0]) ∧ NewB w l u w' := by
 have off0 : Off [] w w := Off.refl _ _
 obtain ⟨k_p, ow_b⟩ := hwr
 go_enter Try.func56, Try.ntmps56
 go_upto_region 3 with fail
 refine wp_region_lit ?_
 refine Lv ?_
 refine Lv ?_
 refine Lv ?_
 refine Lg ?_ k_p (v := .bool false)
 refine Lw ?_ (v := .bool false)
 refine wpL_nil ?_
 go_upto_region 5 with fail
 refine wp_region_lit ?_
 refine Lv ?_
 refine Lv ?_
 refine Lv ?_
 refine Lg ?_ k_p (v := v)
 refine wpL_call (R := fun v W => NewB w l v W) ((clone_c (Own.sl ow_b) (by omega)).mono fun _ _ h => h) (by rfl) rfl (by kernel_rfl) rfl ?_
 (try simp only [Act.put, mA, mB, mC])
 rintro v_c1 W1 hnb
 have hO := hnb.off
 have ow_c1 := hnb.own
 have at_c1 : Of (Value.ownBlock v_c1) none w.heap.size := hnb.fr
 clear hnb
 have fr_c1 : Fr (Value.ownBlock v_c1) w.heap.size [] := own_fr at_c1 fr_none off0.size
 replace off0 := off0.o hO
 clear hO at_c1
 refine Lv ?_
 refine Lw ?_ (v := .int .i64 0)
 refine wpL_nil ?_
 go_wp2
 refine bodyPost_ret (v := .tuple #[v_c1, .int .i64 0]) (by simp only [results, Try.results56]; go_simp) rfl ⟨_, rfl, ow_c1, off0, fr_c1⟩
end Go.Proofs.Ytlbgelbhhibikaa

namespace Go.Proofs.Ytlbgelbhhibikaa
set_option maxHeartbeats 4000000
set_option maxRecDepth 100000
open Go.RowKit
theorem wnum_c (n : Int) (X : Nat) (hx : n % 18446744073709551616 = (X : Int)) (p : Nat) (v : Value) (l : List UInt8) (big : Bool) (w : World) (hwr : Wr w p v l big) (hl : l.length < 140737488355320) :
  Calls Try.prog 29 #[.pointer (some ⟨p, 0, none⟩), .int .i64 n] w fun e w' => e = .returned (.tuple #[]) ∧ ∃ v', WrTo w p v (l ++ be8 X) big v' w' := by
 have hx2 : IntKind.wrap .u64 n = (X : Int) := by rw [IntKind.wrap_u64]; exact hx
 have x0 : (0 : Int) ≤ (X : Int) := Int.natCast_nonneg _
 have x1 : (X : Int) < 18446744073709551616 := by omega
 have off0 : Off (p :: v.ownBlock.toList) w w := Off.refl _ _
 obtain ⟨k_p, ow_b⟩ := hwr
 have ne_b_p := ow_b.ne_blk k_p (by decide)
 have fb_p : Fb p w.heap.size (p :: v.ownBlock.toList) := fun _ => by simp
 have fr_b : Fr (Value.ownBlock v) w.heap.size (p :: v.ownBlock.toList) := fun x hx _ => by simp [hx]
 go_enter Try.func29, Try.ntmps29
 go_wp2_with fail
 refine wp_loop_rounds 9 ?_
 rw [rounds_succ]
 go_upto_region 3 with fail
 refine wp_region_lit ?_
 refine Lv ?_
 refine Lv ?_
 refine Lw ?_ (v := .int .u64 (X : Int)) (hv := by go_simp; (try simp only [hx2]))
 refine Lw ?_ (v := .int .i64 7)
 refine Lw ?_ (v := .int .i64 56)
 refine Lv ?_
 refine Lw ?_ (v := .int .u8 ((X / 72057594037927936 % 256 : Nat) : Int)) (hv := by go_simp; (try simp only [IntKind.wrap_u8, IntKind.wrap_i64]); (try omega))
 refine Lw ?_ (v := .int .i64 ((X / 72057594037927936 % 256 : Nat) : Int)) (hv := by go_simp; (try simp only [IntKind.wrap_u8, IntKind.wrap_i64]); (try omega))
 refine Lc ?_ (wbyte_n (n := X / 72057594037927936 % 256) (by omega) ⟨k_p, ow_b⟩ (by first | omega | (simp only [List.length_append, List.length_cons, List.length_nil]; omega)))
 rintro W1 ⟨v_b1, hto⟩
 have at_b1 := hto.fr
 have hO := hto.off
 have kk := hto.wr.1
 have ow_b1 := hto.wr.2
 clear hto
 have ne_b1_p := own_ne at_b1 ne_b_p (blk_lt k_p)
 have fr_b1 := own_fr at_b1 fr_b off0.size
 replace off0 := off0.step hO (ic fb_p (io fr_b))
 replace k_p := kk
 have ne_b1_p := Own.ne_blk ow_b1 k_p (by decide)
 clear hO at_b1 kk
 refine wpL_nil ?_
 go_wp2_with fail
 rw [rounds_succ]
 go_upto_region 3 with fail
 refine wp_region_lit ?_
 refine Lv ?_
 refine Lv ?_
 refine Lw ?_ (v := .int .u64 (X : Int)) (hv := by go_simp; (try simp only [hx2]))
 refine Lw ?_ (v := .int .i64 6)
 refine Lw ?_ (v := .int .i64 48)
 refine Lv ?_
 refine Lw ?_ (v := .int .u8 ((X / 281474976710656 % 256 : Nat) : Int)) (hv := by go_simp; (try simp only [IntKind.wrap_u8, IntKind.wrap_i64]); (try omega))
 refine Lw ?_ (v := .int .i64 ((X / 281474976710656 % 256 : Nat) : Int)) (hv := by go_simp; (try simp only [IntKind.wrap_u8, IntKind.wrap_i64]); (try omega))
 refine Lc ?_ (wbyte_n (n := X / 281474976710656 % 256) (by omega) ⟨k_p, ow_b1⟩ (by first | omega | (simp only [List.length_append, List.length_cons, List.length_nil]; omega)))
 rintro W2 ⟨v_b2, hto⟩
 have at_b2 := hto.fr
 have hO := hto.off
 have kk := hto.wr.1
 have ow_b2 := hto.wr.2
 clear hto
 have ne_b2_p := own_ne at_b2 ne_b1_p (blk_lt k_p)
 have fr_b2 := own_fr at_b2 fr_b1 off0.size
 replace off0 := off0.step hO (ic fb_p (io fr_b1))
 replace k_p := kk
 have ne_b2_p := Own.ne_blk ow_b2 k_p (by decide)
 clear hO at_b2 kk
 refine wpL_nil ?_
 go_wp2_with fail
 rw [rounds_succ]
 go_upto_region 3 with fail
 refine wp_region_lit ?_
 refine Lv ?_
 refine Lv ?_
 refine Lw ?_ (v := .int .u64 (X : Int)) (hv := by go_simp; (try simp only [hx2]))
 refine Lw ?_ (v := .int .i64 5)
 refine Lw ?_ (v := .int .i64 40)
 refine Lv ?_
 refine Lw ?_ (v := .int .u8 ((X / 1099511627776 % 256 : Nat) : Int)) (hv := by go_simp; (try simp only [IntKind.wrap_u8, IntKind.wrap_i64]); (try omega))
 refine Lw ?_ (v := .int .i64 ((X / 1099511627776 % 256 : Nat) : Int)) (hv := by go_simp; (try simp only [IntKind.wrap_u8, IntKind.wrap_i64]); (try omega))
 refine Lc ?_ (wbyte_n (n := X / 1099511627776 % 256) (by omega) ⟨k_p, ow_b2⟩ (by first | omega | (simp only [List.length_append, List.length_cons, List.length_nil]; omega)))
 rintro W3 ⟨v_b3, hto⟩
 have at_b3 := hto.fr
 have hO := hto.off
 have kk := hto.wr.1
 have ow_b3 := hto.wr.2
 clear hto
 have ne_b3_p := own_ne at_b3 ne_b2_p (blk_lt k_p)
 have fr_b3 := own_fr at_b3 fr_b2 off0.size
 replace off0 := off0.step hO (ic fb_p (io fr_b2))
 replace k_p := kk
 have ne_b3_p := Own.ne_blk ow_b3 k_p (by decide)
 clear hO at_b3 kk
 refine wpL_nil ?_
 go_wp2_with fail
 rw [rounds_succ]
 go_upto_region 3 with fail
 refine wp_region_lit ?_
 refine Lv ?_
 refine Lv ?_
 refine Lw ?_ (v := .int .u64 (X : Int)) (hv := by go_simp; (try simp only [hx2]))
 refine Lw ?_ (v := .int .i64 4)
 refine Lw ?_ (v := .int .i64 32)
 refine Lv ?_
 refine Lw ?_ (v := .int .u8 ((X / 4294967296 % 256 : Nat) : Int)) (hv := by go_simp; (try simp only [IntKind.wrap_u8, IntKind.wrap_i64]); (try omega))
 refine Lw ?_ (v := .int .i64 ((X / 4294967296 % 256 : Nat) : Int)) (hv := by go_simp; (try simp only [IntKind.wrap_u8, IntKind.wrap_i64]); (try omega))
 refine Lc ?_ (wbyte_n (n := X / 4294967296 % 256) (by omega) ⟨k_p, ow_b3⟩ (by first | omega | (simp only [List.length_append, List.length_cons, List.length_nil]; omega)))
 rintro W4 ⟨v_b4, hto⟩
 have at_b4 := hto.fr
 have hO := hto.off
 have kk := hto.wr.1
 have ow_b4 := hto.wr.2
 clear hto
 have ne_b4_p := own_ne at_b4 ne_b3_p (blk_lt k_p)
 have fr_b4 := own_fr at_b4 fr_b3 off0.size
 replace off0 := off0.step hO (ic fb_p (io fr_b3))
 replace k_p := kk
 have ne_b4_p := Own.ne_blk ow_b4 k_p (by decide)
 clear hO at_b4 kk
 refine wpL_nil ?_
 go_wp2_with fail
 rw [rounds_succ]
 go_upto_region 3 with fail
 refine wp_region_lit ?_
 refine Lv ?_
 refine Lv ?_
 refine Lw ?_ (v := .int .u64 (X : Int)) (hv := by go_simp; (try simp only [hx2]))
 refine Lw ?_ (v := .int .i64 3)
 refine Lw ?_ (v := .int .i64 24)
 refine Lv ?_
 refine Lw ?_ (v := .int .u8 ((X / 16777216 % 256 : Nat) : Int)) (hv := by go_simp; (try simp only [IntKind.wrap_u8, IntKind.wrap_i64]); (try omega))
 refine Lw ?_ (v := .int .i64 ((X / 16777216 % 256 : Nat) : Int)) (hv := by go_simp; (try simp only [IntKind.wrap_u8, IntKind.wrap_i64]); (try omega))
 refine Lc ?_ (wbyte_n (n := X / 16777216 % 256) (by omega) ⟨k_p, ow_b4⟩ (by first | omega | (simp only [List.length_append, List.length_cons, List.length_nil]; omega)))
 rintro W5 ⟨v_b5, hto⟩
 have at_b5 := hto.fr
 have hO := hto.off
 have kk := hto.wr.1
 have ow_b5 := hto.wr.2
 clear hto
 have ne_b5_p := own_ne at_b5 ne_b4_p (blk_lt k_p)
 have fr_b5 := own_fr at_b5 fr_b4 off0.size
 replace off0 := off0.step hO (ic fb_p (io fr_b4))
 replace k_p := kk
 have ne_b5_p := Own.ne_blk ow_b5 k_p (by decide)
 clear hO at_b5 kk
 refine wpL_nil ?_
 go_wp2_with fail
 rw [rounds_succ]
 go_upto_region 3 with fail
 refine wp_region_lit ?_
 refine Lv ?_
 refine Lv ?_
 refine Lw ?_ (v := .int .u64 (X : Int)) (hv := by go_simp; (try simp only [hx2]))
 refine Lw ?_ (v := .int .i64 2)
 refine Lw ?_ (v := .int .i64 16)
 refine Lv ?_
 refine Lw ?_ (v := .int .u8 ((X / 65536 % 256 : Nat) : Int)) (hv := by go_simp; (try simp only [IntKind.wrap_u8, IntKind.wrap_i64]); (try omega))
 refine Lw ?_ (v := .int .i64 ((X / 65536 % 256 : Nat) : Int)) (hv := by go_simp; (try simp only [IntKind.wrap_u8, IntKind.wrap_i64]); (try omega))
 refine Lc ?_ (wbyte_n (n := X / 65536 % 256) (by omega) ⟨k_p, ow_b5⟩ (by first | omega | (simp only [List.length_append, List.length_cons, List.length_nil]; omega)))
 rintro W6 ⟨v_b6, hto⟩
 have at_b6 := hto.fr
 have hO := hto.off
 have kk := hto.wr.1
 have ow_b6 := hto.wr.2
 clear hto
 have ne_b6_p := own_ne at_b6 ne_b5_p (blk_lt k_p)
 have fr_b6 := own_fr at_b6 fr_b5 off0.size
 replace off0 := off0.step hO (ic fb_p (io fr_b5))
 replace k_p := kk
 have ne_b6_p := Own.ne_blk ow_b6 k_p (by decide)
 clear hO at_b6 kk
 refine wpL_nil ?_
 go_wp2_with fail
 rw [rounds_succ]
 go_upto_region 3 with fail
 refine wp_region_lit ?_
 refine Lv ?_
 refine Lv ?_
 refine Lw ?_ (v := .int .u64 (X : Int)) (hv := by go_simp; (try simp only [hx2]))
 refine Lw ?_ (v := .int .i64 1)
 refine Lw ?_ (v := .int .i64 8)
 refine Lv ?_
 refine Lw ?_ (v := .int .u8 ((X / 256 % 256 : Nat) : Int)) (hv := by go_simp; (try simp only [IntKind.wrap_u8, IntKind.wrap_i64]); (try omega))
 refine Lw ?_ (v := .int .i64 ((X / 256 % 256 : Nat) : Int)) (hv := by go_simp; (try simp only [IntKind.wrap_u8, IntKind.wrap_i64]); (try omega))
 refine Lc ?_ (wbyte_n (n := X / 256 % 256) (by omega) ⟨k_p, ow_b6⟩ (by first | omega | (simp only [List.length_append, List.length_cons, List.length_nil]; omega)))
 rintro W7 ⟨v_b7, hto⟩
 have at_b7 := hto.fr
 have hO := hto.off
 have kk := hto.wr.1
 have ow_b7 := hto.wr.2
 clear hto
 have ne_b7_p := own_ne at_b7 ne_b6_p (blk_lt k_p)
 have fr_b7 := own_fr at_b7 fr_b6 off0.size
 replace off0 := off0.step hO (ic fb_p (io fr_b6))
 replace k_p := kk
 have ne_b7_p := Own.ne_blk ow_b7 k_p (by decide)
 clear hO at_b7 kk
 refine wpL_nil ?_
 go_wp2_with fail
 rw [rounds_succ]
 go_upto_region 3 with fail
 refine wp_region_lit ?_
 refine Lv ?_
 refine Lv ?_
 refine Lw ?_ (v := .int .u64 (X : Int)) (hv := by go_simp; (try simp only [hx2]))
 refine Lw ?_ (v := .int .i64 0)
 refine Lw ?_ (v := .int .i64 0)
 refine Lv ?_
 refine Lw ?_ (v := .int .u8 ((X % 256 : Nat) : Int)) (hv := by go_simp; (try simp only [IntKind.wrap_u8, IntKind.wrap_i64]); (try omega))
 refine Lw ?_ (v := .int .i64 ((X % 256 : Nat) : Int)) (hv := by go_simp; (try simp only [IntKind.wrap_u8, IntKind.wrap_i64]); (try omega))
 refine Lc ?_ (wbyte_n (n := X % 256) (by omega) ⟨k_p, ow_b7⟩ (by first | omega | (simp only [List.length_append, List.length_cons, List.length_nil]; omega)))
 rintro W8 ⟨v_b8, hto⟩
 have at_b8 := hto.fr
 have hO := hto.off
 have kk := hto.wr.1
 have ow_b8 := hto.wr.2
 clear hto
 have ne_b8_p := own_ne at_b8 ne_b7_p (blk_lt k_p)
 have fr_b8 := own_fr at_b8 fr_b7 off0.size
 replace off0 := off0.step hO (ic fb_p (io fr_b7))
 replace k_p := kk
 have ne_b8_p := Own.ne_blk ow_b8 k_p (by decide)
 clear hO at_b8 kk
 refine wpL_nil ?_
 go_wp2_with fail
 rw [rounds_succ]
 go_wp2
 have e8 : (((((((l ++ [u8 (X / 72057594037927936 % 256)]) ++ [u8 (X / 281474976710656 % 256)]) ++ [u8 (X / 1099511627776 % 256)]) ++ [u8 (X / 4294967296 % 256)]) ++ [u8 (X / 16777216 % 256)]) ++ [u8 (X / 65536 % 256)]) ++ [u8 (X / 256 % 256)]) ++ [u8 (X % 256)] = l ++ be8 X := by simp only [u8_mod, be8, List.append_assoc, List.cons_append, List.nil_append]
 rw [e8] at ow_b8
 exact bodyPost_end (v := .tuple #[]) (by simp only [results, Try.results29]; go_simp) rfl ⟨rfl, _, ⟨k_p, ow_b8⟩, off0, fr_cons fr_b8 ne_b8_p⟩
end Go.Proofs.Ytlbgelbhhibikaa

namespace Go.Proofs.Ytlbgelbhhibikaa
set_option maxHeartbeats 4000000
set_option maxRecDepth 100000
open Go.RowKit
theorem wsum_c (s : List UInt8) (hs : s.length = 32) (p : Nat) (v : Value) (l : List UInt8) (big : Bool) (w : World) (hwr : Wr w p v l big) (hl : l.length < 140737488355290) :
  Calls Try.prog 48 #[.pointer (some ⟨p, 0, none⟩), .agg (bs8 s).toArray] w fun e w' => e = .returned (.tuple #[]) ∧ ∃ v', WrTo w p v (l ++ s) big v' w' := by
 have off0 : Off (p :: v.ownBlock.toList) w w := Off.refl _ _
 obtain ⟨k_p, ow_b⟩ := hwr
 have ne_b_p := ow_b.ne_blk k_p (by decide)
 have fb_p : Fb p w.heap.size (p :: v.ownBlock.toList) := fun _ => by simp
 have fr_b : Fr (Value.ownBlock v) w.heap.size (p :: v.ownBlock.toList) := fun x hx _ => by simp [hx]
 go_enter Try.func48, Try.ntmps48
 go_upto_region 0 with fail
 refine wp_region_lit ?_
 refine Ln ?_ (z := (bs8 s).toArray) (t := 27)
 intro p3_1 W1 n_t3 hO h_
 replace k_p := k_p.o hO
 replace ow_b := Own.off ow_b hO f0
 replace off0 := off0.o hO
 have k_t3 := h_
 clear hO h_ n_t3
 refine wpL_nil ?_
 go_upto_region 2 with fail
 refine wp_region_xn 6 [] (by kernel_rfl) (fun x hx => by cases hx) (by kernel_rfl) ?_
 simp only [List.take_succ_cons, List.take_zero, List.take_nil]
 (try simp only [Act.put, mA, mB, mC])
 refine Xv ?_
 refine Xv ?_
 refine Xv ?_
 refine Xv ?_
 refine Xc ?_ (v := v) (blk_rd k_p)
 refine Xv ?_
 refine wpX_nil ?_
 intro β W2 hE hN hD
 clear hN hD
 simp only [putAll, Act.put, mA, mB, mC, List.drop_succ_cons, List.drop_zero, List.drop_nil, List.length_nil, Nat.add_zero]
 have hO := off_ext hE
 replace k_p := k_p.o hO
 replace k_t3 := k_t3.o hO
 replace ow_b := Own.off ow_b hO f0
 replace off0 := off0.o hO
 clear hO hE β
 have ow_arr : Sl W2 (.slice (some ⟨p3_1, 0, none⟩) 32 32) s := sl_blk k_t3 hs.symm (Nat.le_refl _) (by decide) (fun j x hj => by rw [Nat.zero_add]; simpa using bs8_get hj)
 refine wpL_append (xs := l) (ys := s) (by rfl) rfl rfl rfl ow_b ow_arr (by omega) ?_
 (try simp only [Act.put, mA, mB, mC])
 intro v12_3 W3 ow_a12 hO at_a12 nil_a12
 clear nil_a12
 have ne_a12_p := own_ne at_a12 ne_b_p (blk_lt k_p)
 have fr_a12 := own_fr at_a12 fr_b off0.size
 replace k_p := blk_off k_p hO (nmo ne_b_p)
 replace off0 := off0.step hO (io fr_b)
 clear hO at_a12
 refine Lv ?_
 refine Lv ?_
 refine wpL_put1 (v := v12_3) (own_cells ow_a12) (by rfl) rfl rfl rfl k_p (by show 0 < 2; decide) (by kernel_rfl) ?_
 (try simp only [Act.put, mA, mB, mC])
 intro W4 hO h_
 replace k_p : Blk W4 p #[v12_3, .bool big] 94 := h_
 clear h_
 replace ow_a12 := Own.off ow_a12 hO (f1 ne_a12_p)
 replace off0 := off0.p hO fb_p
 clear hO
 refine LN ?_
 go_wp2
 exact bodyPost_end (v := .tuple #[]) (by simp only [results, Try.results48]; go_simp) rfl ⟨rfl, _, ⟨k_p, ow_a12⟩, off0, fr_cons fr_a12 ne_a12_p⟩
end Go.Proofs.Ytlbgelbhhibikaa

namespace Go.Proofs.Ytlbgelbhhibikaa
set_option maxHeartbeats 4000000
set_option maxRecDepth 100000
open Go.RowKit
end Go.Proofs.Ytlbgelbhhibikaa

namespace Go.Proofs.Ytlbgelbhhibikaa
set_option maxHeartbeats 4000000
set_option maxRecDepth 100000
open Go.RowKit
theorem wtext_c (p : Nat) (v : Value) (l : List UInt8) (big : Bool) (w : World) (hwr : Wr w p v l big) (u : Value) (m : List UInt8) (hu : Sl w u m) (hm : m.length ≤ 65535) (hup : sb u m ≠ some p) (hub : ∀ x, v.ownBlock = some x → sb u m ≠ some x) (hl : l.length < 140737488280000) :
  Calls Try.prog 55 #[.pointer (some ⟨p, 0, none⟩), u] w fun e w' => e = .returned (.tuple #[]) ∧ ∃ v', WrTo w p v (l ++ [u8 (m.length / 256), u8 m.length] ++ m) big v' w' := by
 obtain ⟨A, c, rfl, hc1, hc2, hc3, hc4⟩ := id hu
 have off0 : Off (p :: v.ownBlock.toList) w w := Off.refl _ _
 obtain ⟨k_p, ow_b⟩ := hwr
 have ne_b_p := ow_b.ne_blk k_p (by decide)
 have fb_p : Fb p w.heap.size (p :: v.ownBlock.toList) := fun _ => by simp
 have fr_b : Fr (Value.ownBlock v) w.heap.size (p :: v.ownBlock.toList) := fun x hx _ => by simp [hx]
 have ow_t := hu
 have dj_b_t := hub
 go_enter Try.func55, Try.ntmps55
 go_upto_region 2 with fail
 refine wp_region_lit ?_
 refine Lv ?_
 refine wpL_len (l := m) ow_t (by rfl) rfl rfl ?_
 (try simp only [Act.put, mA, mB, mC])
 refine Lw ?_ (v := .bool false)
 refine Lw ?_ (v := .bool false)
 refine wpL_nil ?_
 go_upto_region 0 with fail
 refine wp_region_lit ?_
 refine Lv ?_
 refine Lv ?_
 refine Lv ?_
 refine Lv ?_
 refine Lg ?_ k_p (v := v)
 refine Lv ?_
 refine wpL_len (l := m) ow_t (by rfl) rfl rfl ?_
 (try simp only [Act.put, mA, mB, mC])
 refine Lv ?_
 refine Lw ?_ (v := .int .u8 ((u8 (m.length / 256)).toNat : Int)) (hv := by go_simp; (try simp only [u8_nat, IntKind.wrap_u8]); omega)
 refine Lv ?_
 refine wpL_len (l := m) ow_t (by rfl) rfl rfl ?_
 (try simp only [Act.put, mA, mB, mC])
 refine Lw ?_ (v := .int .u8 ((u8 m.length).toNat : Int)) (hv := by go_simp; (try simp only [u8_nat, IntKind.wrap_u8]); omega)
 refine LnS ?_ (z := #[.int .u8 ((u8 (m.length / 256)).toNat : Int), .int .u8 ((u8 m.length).toNat : Int)]) (t := 5) (n := 2) (c := 2)
 intro p16_1 W1 n_s16 hO h_
 replace k_p := k_p.o hO
 replace ow_b := Own.off ow_b hO f0
 replace ow_t := Sl.off ow_t hO f0
 replace off0 := off0.o hO
 have ow_s16 : Own W1 (.slice (some ⟨p16_1, 0, none⟩) 2 2) [u8 (m.length / 256), u8 m.length] := own_blk h_ (by rfl) (by show 2 ≤ maxLen; decide)
 clear hO h_ n_s16
 refine wpL_append (xs := l) (ys := [u8 (m.length / 256), u8 m.length]) (by rfl) rfl rfl rfl ow_b (Own.sl ow_s16) (by first | omega | (simp only [List.length_append, List.length_cons, List.length_nil]; omega)) ?_
 (try simp only [Act.put, mA, mB, mC])
 intro v17_2 W2 ow_a17 hO at_a17 nil_a17
 clear nil_a17
 have ne_a17_p := own_ne at_a17 ne_b_p (blk_lt k_p)
 have fr_a17 := own_fr at_a17 fr_b off0.size
 replace k_p := blk_off k_p hO (nmo ne_b_p)
 replace ow_t := Sl.off ow_t hO (fo dj_b_t)
 replace off0 := off0.step hO (io fr_b)
 clear hO at_a17
 refine Lv ?_
 refine wpL_append (xs := (l ++ [u8 (m.length / 256), u8 m.length])) (ys := m) (by rfl) rfl rfl rfl ow_a17 ow_t (by first | omega | (simp only [List.length_append, List.length_cons, List.length_nil]; omega)) ?_
 (try simp only [Act.put, mA, mB, mC])
 intro v19_3 W3 ow_a19 hO at_a19 nil_a19
 clear nil_a19
 have ne_a19_p := own_ne at_a19 ne_a17_p (blk_lt k_p)
 have fr_a19 := own_fr at_a19 fr_a17 off0.size
 replace k_p := blk_off k_p hO (nmo ne_a17_p)
 replace off0 := off0.step hO (io fr_a17)
 clear hO at_a19
 refine Lv ?_
 refine Lv ?_
 refine wpL_put1 (v := v19_3) (own_cells ow_a19) (by rfl) rfl rfl rfl k_p (by show 0 < 2; decide) (by kernel_rfl) ?_
 (try simp only [Act.put, mA, mB, mC])
 intro W4 hO h_
 replace k_p : Blk W4 p #[v19_3, .bool big] 94 := h_
 clear h_
 replace ow_a19 := Own.off ow_a19 hO (f1 ne_a19_p)
 replace off0 := off0.p hO fb_p
 clear hO
 refine wpL_nil ?_
 go_wp2
 exact bodyPost_end (v := .tuple #[]) (by simp only [results, Try.results55]; go_simp) rfl ⟨rfl, _, ⟨k_p, ow_a19⟩, off0, fr_cons fr_a19 ne_a19_p⟩
end Go.Proofs.Ytlbgelbhhibikaa

namespace Go.Proofs.Ytlbgelbhhibikaa
set_option maxHeartbeats 4000000
set_option maxRecDepth 100000
open Go.RowKit
theorem one_c (n : Nat) (w : World) :
  Calls Try.prog 31 #[.int .i64 (n : Int)] w fun e w' => Ret (str [u8 n]) w w' e := by
 have off0 : Off [] w w := Off.refl _ _
 go_enter Try.func31, Try.ntmps31
 go_upto_region 1 with fail
 refine wp_region_lit ?_
 refine Lv ?_
 refine Lw ?_ (v := .int .u8 ((u8 n).toNat : Int)) (hv := by go_simp; (try simp only [u8_cast, IntKind.wrap_u8]); (try omega))
 refine LnS ?_ (z := #[.int .u8 ((u8 n).toNat : Int)]) (t := 5) (n := 1) (c := 1)
 intro p5_1 W1 n_s5 hO h_
 replace off0 := off0.o hO
 have ow_s5 : Own W1 (.slice (some ⟨p5_1, 0, none⟩) 1 1) [u8 n] := own_blk h_ (by rfl) (by show 1 ≤ maxLen; decide)
 clear hO h_ n_s5
 refine wpL_str (l := [u8 n]) (Own.sl ow_s5) (by rfl) rfl rfl ?_
 (try simp only [Act.put, mA, mB, mC])
 refine Lv ?_
 refine wpL_nil ?_
 go_wp2
 exact bodyPost_ret (v := str [u8 n]) (by simp only [results, Try.results31]; go_simp) rfl ⟨rfl, off0.ext⟩
end Go.Proofs.Ytlbgelbhhibikaa

namespace Go.Proofs.Ytlbgelbhhibikaa
set_option maxHeartbeats 4000000
set_option maxRecDepth 100000
open Go.RowKit
theorem eight_c (n : Int) (X : Nat) (hx : n % 18446744073709551616 = (X : Int)) (w : World) :
  Calls Try.prog 33 #[.int .i64 n] w fun e w' => Ret (str (be8 X)) w w' e := by
 have hx2 : IntKind.wrap .u64 n = (X : Int) := by rw [IntKind.wrap_u64]; exact hx
 have x0 : (0 : Int) ≤ (X : Int) := Int.natCast_nonneg _
 have x1 : (X : Int) < 18446744073709551616 := by omega
 have off0 : Off [] w w := Off.refl _ _
 go_enter Try.func33, Try.ntmps33
 go_wp2_with fail
 refine wp_loop_rounds 9 ?_
 rw [rounds_succ]
 go_upto_region 5 with fail
 refine wp_region_lit ?_
 refine Lv ?_
 refine Lv ?_
 refine Lw ?_ (v := .int .u64 (X : Int)) (hv := by go_simp; (try simp only [hx2]))
 refine Lw ?_ (v := .int .i64 56)
 refine Lv ?_
 refine Lw ?_ (v := .int .u8 ((u8 (X / 72057594037927936)).toNat : Int)) (hv := by go_simp; (try simp only [u8_cast, IntKind.wrap_u8]); (try omega))
 refine LnS ?_ (z := #[.int .u8 ((u8 (X / 72057594037927936)).toNat : Int)]) (t := 5) (n := 1) (c := 1)
 intro p15_1 W1 n_s15 hO h_
 replace off0 := off0.o hO
 have ow_s15 : Own W1 (.slice (some ⟨p15_1, 0, none⟩) 1 1) [u8 (X / 72057594037927936)] := own_blk h_ (by rfl) (by show 1 ≤ maxLen; decide)
 clear hO h_ n_s15
 refine wpL_str (l := [u8 (X / 72057594037927936)]) (Own.sl ow_s15) (by rfl) rfl rfl ?_
 (try simp only [Act.put, mA, mB, mC])
 refine wpL_cat (l := []) (m := [u8 (X / 72057594037927936)]) (by first | omega | (simp only [List.length_append, List.length_cons, List.length_nil]; omega)) (by rfl) rfl rfl rfl ?_
 (try simp only [Act.put, mA, mB, mC])
 refine Lv ?_
 refine wpL_nil ?_
 go_wp2_with fail
 rw [rounds_succ]
 go_upto_region 5 with fail
 refine wp_region_lit ?_
 refine Lv ?_
 refine Lv ?_
 refine Lw ?_ (v := .int .u64 (X : Int)) (hv := by go_simp; (try simp only [hx2]))
 refine Lw ?_ (v := .int .i64 48)
 refine Lv ?_
 refine Lw ?_ (v := .int .u8 ((u8 (X / 281474976710656)).toNat : Int)) (hv := by go_simp; (try simp only [u8_cast, IntKind.wrap_u8]); (try omega))
 clear ow_s15
 refine LnS ?_ (z := #[.int .u8 ((u8 (X / 281474976710656)).toNat : Int)]) (t := 5) (n := 1) (c := 1)
 intro p15_2 W2 n_s15 hO h_
 replace off0 := off0.o hO
 have ow_s15 : Own W2 (.slice (some ⟨p15_2, 0, none⟩) 1 1) [u8 (X / 281474976710656)] := own_blk h_ (by rfl) (by show 1 ≤ maxLen; decide)
 clear hO h_ n_s15
 refine wpL_str (l := [u8 (X / 281474976710656)]) (Own.sl ow_s15) (by rfl) rfl rfl ?_
 (try simp only [Act.put, mA, mB, mC])
 refine wpL_cat (l := ([] ++ [u8 (X / 72057594037927936)])) (m := [u8 (X / 281474976710656)]) (by first | omega | (simp only [List.length_append, List.length_cons, List.length_nil]; omega)) (by rfl) rfl rfl rfl ?_
 (try simp only [Act.put, mA, mB, mC])
 refine Lv ?_
 refine wpL_nil ?_
 go_wp2_with fail
 rw [rounds_succ]
 go_upto_region 5 with fail
 refine wp_region_lit ?_
 refine Lv ?_
 refine Lv ?_
 refine Lw ?_ (v := .int .u64 (X : Int)) (hv := by go_simp; (try simp only [hx2]))
 refine Lw ?_ (v := .int .i64 40)
 refine Lv ?_
 refine Lw ?_ (v := .int .u8 ((u8 (X / 1099511627776)).toNat : Int)) (hv := by go_simp; (try simp only [u8_cast, IntKind.wrap_u8]); (try omega))
 clear ow_s15
 refine LnS ?_ (z := #[.int .u8 ((u8 (X / 1099511627776)).toNat : Int)]) (t := 5) (n := 1) (c := 1)
 intro p15_3 W3 n_s15 hO h_
 replace off0 := off0.o hO
 have ow_s15 : Own W3 (.slice (some ⟨p15_3, 0, none⟩) 1 1) [u8 (X / 1099511627776)] := own_blk h_ (by rfl) (by show 1 ≤ maxLen; decide)
 clear hO h_ n_s15
 refine wpL_str (l := [u8 (X / 1099511627776)]) (Own.sl ow_s15) (by rfl) rfl rfl ?_
 (try simp only [Act.put, mA, mB, mC])
 refine wpL_cat (l := (([] ++ [u8 (X / 72057594037927936)]) ++ [u8 (X / 281474976710656)])) (m := [u8 (X / 1099511627776)]) (by first | omega | (simp only [List.length_append, List.length_cons, List.length_nil]; omega)) (by rfl) rfl rfl rfl ?_
 (try simp only [Act.put, mA, mB, mC])
 refine Lv ?_
 refine wpL_nil ?_
 go_wp2_with fail
 rw [rounds_succ]
 go_upto_region 5 with fail
 refine wp_region_lit ?_
 refine Lv ?_
 refine Lv ?_
 refine Lw ?_ (v := .int .u64 (X : Int)) (hv := by go_simp; (try simp only [hx2]))
 refine Lw ?_ (v := .int .i64 32)
 refine Lv ?_
 refine Lw ?_ (v := .int .u8 ((u8 (X / 4294967296)).toNat : Int)) (hv := by go_simp; (try simp only [u8_cast, IntKind.wrap_u8]); (try omega))
 clear ow_s15
 refine LnS ?_ (z := #[.int .u8 ((u8 (X / 4294967296)).toNat : Int)]) (t := 5) (n := 1) (c := 1)
 intro p15_4 W4 n_s15 hO h_
 replace off0 := off0.o hO
 have ow_s15 : Own W4 (.slice (some ⟨p15_4, 0, none⟩) 1 1) [u8 (X / 4294967296)] := own_blk h_ (by rfl) (by show 1 ≤ maxLen; decide)
 clear hO h_ n_s15
 refine wpL_str (l := [u8 (X / 4294967296)]) (Own.sl ow_s15) (by rfl) rfl rfl ?_
 (try simp only [Act.put, mA, mB, mC])
 refine wpL_cat (l := ((([] ++ [u8 (X / 72057594037927936)]) ++ [u8 (X / 281474976710656)]) ++ [u8 (X / 1099511627776)])) (m := [u8 (X / 4294967296)]) (by first | omega | (simp only [List.length_append, List.length_cons, List.length_nil]; omega)) (by rfl) rfl rfl rfl ?_
 (try simp only [Act.put, mA, mB, mC])
 refine Lv ?_
 refine wpL_nil ?_
 go_wp2_with fail
 rw [rounds_succ]
 go_upto_region 5 with fail
 refine wp_region_lit ?_
 refine Lv ?_
 refine Lv ?_
 refine Lw ?_ (v := .int .u64 (X : Int)) (hv := by go_simp; (try simp only [hx2]))
 refine Lw ?_ (v := .int .i64 24)
 refine Lv ?_
 refine Lw ?_ (v := .int .u8 ((u8 (X / 16777216)).toNat : Int)) (hv := by go_simp; (try simp only [u8_cast, IntKind.wrap_u8]); (try omega))
 clear ow_s15
 refine LnS ?_ (z := #[.int .u8 ((u8 (X / 16777216)).toNat : Int)]) (t := 5) (n := 1) (c := 1)
 intro p15_5 W5 n_s15 hO h_
 replace off0 := off0.o hO
 have ow_s15 : Own W5 (.slice (some ⟨p15_5, 0, none⟩) 1 1) [u8 (X / 16777216)] := own_blk h_ (by rfl) (by show 1 ≤ maxLen; decide)
 clear hO h_ n_s15
 refine wpL_str (l := [u8 (X / 16777216)]) (Own.sl ow_s15) (by rfl) rfl rfl ?_
 (try simp only [Act.put, mA, mB, mC])
 refine wpL_cat (l := (((([] ++ [u8 (X / 72057594037927936)]) ++ [u8 (X / 281474976710656)]) ++ [u8 (X / 1099511627776)]) ++ [u8 (X / 4294967296)])) (m := [u8 (X / 16777216)]) (by first | omega | (simp only [List.length_append, List.length_cons, List.length_nil]; omega)) (by rfl) rfl rfl rfl ?_
 (try simp only [Act.put, mA, mB, mC])
 refine Lv ?_
 refine wpL_nil ?_
 go_wp2_with fail
 rw [rounds_succ]
 go_upto_region 5 with fail
 refine wp_region_lit ?_
 refine Lv ?_
 refine Lv ?_
 refine Lw ?_ (v := .int .u64 (X : Int)) (hv := by go_simp; (try simp only [hx2]))
 refine Lw ?_ (v := .int .i64 16)
 refine Lv ?_
 refine Lw ?_ (v := .int .u8 ((u8 (X / 65536)).toNat : Int)) (hv := by go_simp; (try simp only [u8_cast, IntKind.wrap_u8]); (try omega))
 clear ow_s15
 refine LnS ?_ (z := #[.int .u8 ((u8 (X / 65536)).toNat : Int)]) (t := 5) (n := 1) (c := 1)
 intro p15_6 W6 n_s15 hO h_
 replace off0 := off0.o hO
 have ow_s15 : Own W6 (.slice (some ⟨p15_6, 0, none⟩) 1 1) [u8 (X / 65536)] := own_blk h_ (by rfl) (by show 1 ≤ maxLen; decide)
 clear hO h_ n_s15
 refine wpL_str (l := [u8 (X / 65536)]) (Own.sl ow_s15) (by rfl) rfl rfl ?_
 (try simp only [Act.put, mA, mB, mC])
 refine wpL_cat (l := ((((([] ++ [u8 (X / 72057594037927936)]) ++ [u8 (X / 281474976710656)]) ++ [u8 (X / 1099511627776)]) ++ [u8 (X / 4294967296)]) ++ [u8 (X / 16777216)])) (m := [u8 (X / 65536)]) (by first | omega | (simp only [List.length_append, List.length_cons, List.length_nil]; omega)) (by rfl) rfl rfl rfl ?_
 (try simp only [Act.put, mA, mB, mC])
 refine Lv ?_
 refine wpL_nil ?_
 go_wp2_with fail
 rw [rounds_succ]
 go_upto_region 5 with fail
 refine wp_region_lit ?_
 refine Lv ?_
 refine Lv ?_
 refine Lw ?_ (v := .int .u64 (X : Int)) (hv := by go_simp; (try simp only [hx2]))
 refine Lw ?_ (v := .int .i64 8)
 refine Lv ?_
 refine Lw ?_ (v := .int .u8 ((u8 (X / 256)).toNat : Int)) (hv := by go_simp; (try simp only [u8_cast, IntKind.wrap_u8]); (try omega))
 clear ow_s15
 refine LnS ?_ (z := #[.int .u8 ((u8 (X / 256)).toNat : Int)]) (t := 5) (n := 1) (c := 1)
 intro p15_7 W7 n_s15 hO h_
 replace off0 := off0.o hO
 have ow_s15 : Own W7 (.slice (some ⟨p15_7, 0, none⟩) 1 1) [u8 (X / 256)] := own_blk h_ (by rfl) (by show 1 ≤ maxLen; decide)
 clear hO h_ n_s15
 refine wpL_str (l := [u8 (X / 256)]) (Own.sl ow_s15) (by rfl) rfl rfl ?_
 (try simp only [Act.put, mA, mB, mC])
 refine wpL_cat (l := (((((([] ++ [u8 (X / 72057594037927936)]) ++ [u8 (X / 281474976710656)]) ++ [u8 (X / 1099511627776)]) ++ [u8 (X / 4294967296)]) ++ [u8 (X / 16777216)]) ++ [u8 (X / 65536)])) (m := [u8 (X / 256)]) (by first | omega | (simp only [List.length_append, List.length_cons, List.length_nil]; omega)) (by rfl) rfl rfl rfl ?_
 (try simp only [Act.put, mA, mB, mC])
 refine Lv ?_
 refine wpL_nil ?_
 go_wp2_with fail
 rw [rounds_succ]
 go_upto_region 5 with fail
 refine wp_region_lit ?_
 refine Lv ?_
 refine Lv ?_
 refine Lw ?_ (v := .int .u64 (X : Int)) (hv := by go_simp; (try simp only [hx2]))
 refine Lw ?_ (v := .int .i64 0)
 refine Lv ?_
 refine Lw ?_ (v := .int .u8 ((u8 X).toNat : Int)) (hv := by go_simp; (try simp only [u8_cast, IntKind.wrap_u8]); (try omega))
 clear ow_s15
 refine LnS ?_ (z := #[.int .u8 ((u8 X).toNat : Int)]) (t := 5) (n := 1) (c := 1)
 intro p15_8 W8 n_s15 hO h_
 replace off0 := off0.o hO
 have ow_s15 : Own W8 (.slice (some ⟨p15_8, 0, none⟩) 1 1) [u8 X] := own_blk h_ (by rfl) (by show 1 ≤ maxLen; decide)
 clear hO h_ n_s15
 refine wpL_str (l := [u8 X]) (Own.sl ow_s15) (by rfl) rfl rfl ?_
 (try simp only [Act.put, mA, mB, mC])
 refine wpL_cat (l := ((((((([] ++ [u8 (X / 72057594037927936)]) ++ [u8 (X / 281474976710656)]) ++ [u8 (X / 1099511627776)]) ++ [u8 (X / 4294967296)]) ++ [u8 (X / 16777216)]) ++ [u8 (X / 65536)]) ++ [u8 (X / 256)])) (m := [u8 X]) (by first | omega | (simp only [List.length_append, List.length_cons, List.length_nil]; omega)) (by rfl) rfl rfl rfl ?_
 (try simp only [Act.put, mA, mB, mC])
 refine Lv ?_
 refine wpL_nil ?_
 go_wp2_with fail
 rw [rounds_succ]
 go_wp2
 exact bodyPost_ret (v := str (((((((([] ++ [u8 (X / 72057594037927936)]) ++ [u8 (X / 281474976710656)]) ++ [u8 (X / 1099511627776)]) ++ [u8 (X / 4294967296)]) ++ [u8 (X / 16777216)]) ++ [u8 (X / 65536)]) ++ [u8 (X / 256)]) ++ [u8 X])) (by simp only [results, Try.results33]; go_simp) rfl ⟨rfl, off0.ext⟩
end Go.Proofs.Ytlbgelbhhibikaa

namespace Go.Proofs.Ytlbgelbhhibikaa
set_option maxHeartbeats 4000000
set_option maxRecDepth 100000
open Go.RowKit
theorem rtext_c (m : List UInt8) (hm : m.length ≤ 140737488355328) (w : World) :
  Calls Try.prog 43 #[str m] w fun e w' => Ret (str ([u8 (m.length / 256)] ++ [u8 m.length] ++ m)) w w' e := by
 have off0 : Off [] w w := Off.refl _ _
 go_enter Try.func43, Try.ntmps43
 go_upto_region 1 with fail
 refine wp_region_lit ?_
 refine Lv ?_
 refine wpL_slen (l := m) (by rfl) rfl rfl ?_
 (try simp only [Act.put, mA, mB, mC])
 refine Lw ?_ (v := .int .i64 ((m.length / 256 : Nat) : Int)) (hv := by go_simp; (try omega))
 refine Lr ?_ (one_c (m.length / 256) w)
 intro W1 hO
 replace off0 := off0.o hO
 clear hO
 refine Lv ?_
 refine wpL_slen (l := m) (by rfl) rfl rfl ?_
 (try simp only [Act.put, mA, mB, mC])
 refine Lr ?_ (one_c (m.length) W1)
 intro W2 hO
 replace off0 := off0.o hO
 clear hO
 refine wpL_cat (l := [u8 (m.length / 256)]) (m := [u8 (m.length)]) (by first | omega | (simp only [List.length_append, List.length_cons, List.length_nil]; omega)) (by rfl) rfl rfl rfl ?_
 (try simp only [Act.put, mA, mB, mC])
 refine Lv ?_
 refine wpL_cat (l := ([u8 (m.length / 256)] ++ [u8 (m.length)])) (m := m) (by first | omega | (simp only [List.length_append, List.length_cons, List.length_nil]; omega)) (by rfl) rfl rfl rfl ?_
 (try simp only [Act.put, mA, mB, mC])
 refine Lv ?_
 refine wpL_nil ?_
 go_wp2
 exact bodyPost_ret (v := str (([u8 (m.length / 256)] ++ [u8 (m.length)]) ++ m)) (by simp only [results, Try.results43]; go_simp) rfl ⟨rfl, off0.ext⟩
end Go.Proofs.Ytlbgelbhhibikaa

namespace Go.Proofs.Ytlbgelbhhibikaa
set_option maxHeartbeats 4000000
set_option maxRecDepth 100000
open Go.RowKit
/-- A reader: what is left, and what was wrong. -/
def Rdr (w : World) (p : Nat) (v : Value) (l : List UInt8) (e : Int) : Prop := Blk w p #[v, .int .i64 e] 141 ∧ Sl w v l ∧ sb v l ≠ some p
end Go.Proofs.Ytlbgelbhhibikaa

namespace Go.Proofs.Ytlbgelbhhibikaa
set_option maxHeartbeats 4000000
set_option maxRecDepth 100000
open Go.RowKit
/-- What a reader's method leaves. -/
structure RdTo (w : World) (p : Nat) (v : Value) (l : List UInt8) (l' : List UInt8) (e : Int) (v' : Value) (w' : World) : Prop where
  rd : Rdr w' p v' l' e
  sub : Sub v' l' (sb v l)
  off : Off [p] w w'
end Go.Proofs.Ytlbgelbhhibikaa

namespace Go.Proofs.Ytlbgelbhhibikaa
set_option maxHeartbeats 4000000
set_option maxRecDepth 100000
open Go.RowKit
theorem take_ok (p : Nat) (v : Value) (l : List UInt8) (w : World) (hrd : Rdr w p v l 0) (n : Nat) (hn : n ≤ l.length) (hl : l.length < 140737488000000) :
  Calls Try.prog 59 #[.pointer (some ⟨p, 0, none⟩), .int .i64 (n : Int)] w fun e w' => ∃ u, e = .returned u ∧ Sl w' u (l.take n) ∧ Sub u (l.take n) (sb v l) ∧ (0 < n → ∃ ad c, u = .slice (some ad) n c) ∧ ∃ v', RdTo w p v l (l.drop n) 0 v' w' := by
 have off0 : Off [p] w w := Off.refl _ _
 obtain ⟨k_p, ow_b, ne_b_p⟩ := hrd
 have fb_p : Fb p w.heap.size [p] := fun _ => by simp
 go_enter Try.func59, Try.ntmps59
 go_upto_region 1 with fail
 refine wp_region_lit ?_
 refine Lv ?_
 refine Lw ?_ (v := .bool false)
 refine Lw ?_ (v := .bool false)
 refine Lv ?_
 refine Lv ?_
 refine Lv ?_
 refine Lg ?_ k_p (v := .int .i64 0)
 refine Lw ?_ (v := .bool false)
 refine Lw ?_ (v := .bool false)
 refine Lw ?_ (v := .bool false)
 refine wpL_nil ?_
 go_upto_region 3 with fail
 refine wp_region_lit ?_
 refine Lv ?_
 refine Lv ?_
 refine Lv ?_
 refine Lg ?_ k_p (v := v)
 refine wpL_len (l := l) ow_b (by rfl) rfl rfl ?_
 (try simp only [Act.put, mA, mB, mC])
 refine Lv ?_
 refine Lw ?_ (v := .bool false)
 refine Lw ?_ (v := .bool false)
 refine wpL_nil ?_
 go_upto_region 6 with fail
 refine wp_region_lit ?_
 refine Lv ?_
 refine Lv ?_
 refine Lv ?_
 refine Lg ?_ k_p (v := v)
 refine Lv ?_
 refine wpL_head (n := n) ow_b (by omega) (by rfl) rfl rfl rfl ?_
 (try simp only [Act.put, mA, mB, mC])
 intro u32_0 ow_c32 sub_c32 some_c32
 have ne_c32_p : sb u32_0 (List.take n l) ≠ some p := sub_ne sub_c32 ne_b_p
 refine Lv ?_
 refine wpL_nil ?_
 go_upto_region 7 with fail
 refine wp_region_lit ?_
 refine Lv ?_
 refine Lv ?_
 refine Lv ?_
 refine Lv ?_
 refine Lg ?_ k_p (v := v)
 refine Lv ?_
 refine wpL_tail (n := n) ow_b (by omega) (by rfl) rfl rfl rfl ?_
 (try simp only [Act.put, mA, mB, mC])
 intro u39_0 ow_c39 sub_c39
 have ne_c39_p : sb u39_0 (List.drop n l) ≠ some p := sub_ne sub_c39 ne_b_p
 refine Lv ?_
 refine Lv ?_
 refine wpL_put1 (v := u39_0) (sl_cells ow_c39) (by rfl) rfl rfl rfl k_p (by show 0 < 2; decide) (by kernel_rfl) ?_
 (try simp only [Act.put, mA, mB, mC])
 intro W1 hO h_
 replace k_p : Blk W1 p #[u39_0, .int .i64 0] 141 := h_
 clear h_
 replace ow_c32 := Sl.off ow_c32 hO (f1 ne_c32_p)
 replace ow_c39 := Sl.off ow_c39 hO (f1 ne_c39_p)
 replace off0 := off0.p hO fb_p
 clear hO
 refine wpL_nil ?_
 go_wp2
 exact bodyPost_ret (v := u32_0) (by simp only [results, Try.results59]; go_simp) rfl ⟨_, rfl, ow_c32, sub_c32, some_c32, _, ⟨k_p, ow_c39, ne_c39_p⟩, sub_c39, off0⟩
end Go.Proofs.Ytlbgelbhhibikaa

namespace Go.Proofs.Ytlbgelbhhibikaa
set_option maxHeartbeats 4000000
set_option maxRecDepth 100000
open Go.RowKit
theorem rbyte_ok (p : Nat) (v : Value) (c : UInt8) (r : List UInt8) (w : World) (hrd : Rdr w p v (c :: r) 0) (hl : (c :: r).length < 140737488000000) :
  Calls Try.prog 37 #[.pointer (some ⟨p, 0, none⟩)] w fun e w' => e = .returned (.int .i64 (c.toNat : Int)) ∧ ∃ v', RdTo w p v (c :: r) r 0 v' w' := by
 have off0 : Off [p] w w := Off.refl _ _
 obtain ⟨k_p, ow_b, ne_b_p⟩ := hrd
 have fb_p : Fb p w.heap.size [p] := fun _ => by simp
 go_enter Try.func37, Try.ntmps37
 go_upto_region 1 with fail
 refine wp_region_lit ?_
 refine Lv ?_
 refine wpL_call (R := fun u W => Sl W u (List.take 1 (c :: r)) ∧ Sub u (List.take 1 (c :: r)) (sb v (c :: r)) ∧ (0 < 1 → ∃ ad c, u = .slice (some ad) 1 c) ∧ ∃ v2, RdTo w p v (c :: r) (List.drop 1 (c :: r)) 0 v2 W) ((take_ok p v (c :: r) w ⟨k_p, ow_b, ne_b_p⟩ 1 (by simp) (by first | omega | (simp only [List.length_append, List.length_cons, List.length_nil]; omega))).mono fun _ _ h => h) (by rfl) rfl (by kernel_rfl) rfl ?_
 (try simp only [Act.put, mA, mB, mC])
 rintro u5_0 W1 ⟨hu, hsu, hso, v_b1, hto⟩
 (try simp only [Act.put, mA, mB, mC])
 have hO := hto.off
 have kk := hto.rd.1
 have hv2 := hto.rd.2.1
 have hs2 := hto.sub
 clear hto
 replace off0 := off0.p hO fb_p
 replace k_p := kk
 clear kk hO
 have ow_h5 := hu
 have ow_b1 := hv2
 clear hu hv2
 have ne_b1_p : sb v_b1 (List.drop 1 (c :: r)) ≠ some p := sub_ne hs2 ne_b_p
 refine Lv ?_
 refine wpL_nil ?_
 obtain ⟨ad, cc, hsf⟩ := hso (by decide)
 subst hsf
 go_upto_region 2 with fail
 refine wp_region_lit ?_
 refine Lv ?_
 refine Lw ?_ (v := .bool false)
 refine wpL_nil ?_
 go_upto_region 4 with fail
 refine wp_region_lit ?_
 refine Lv ?_
 refine wpL_ixs (j := 0) (c := c) ow_h5 rfl (by rfl) rfl rfl rfl ?_
 (try simp only [Act.put, mA, mB, mC])
 intro adr hadr
 refine wpL_at (by rfl) rfl rfl hadr (by kernel_rfl) ?_
 (try simp only [Act.put, mA, mB, mC])
 refine Lw ?_ (v := .int .i64 (c.toNat : Int)) (hv := by have := c.toNat_lt; go_simp; (try simp only [IntKind.wrap_i64]); (try omega))
 refine Lv ?_
 refine wpL_nil ?_
 go_wp2
 exact bodyPost_ret (v := .int .i64 (c.toNat : Int)) (by simp only [results, Try.results37]; first | (go_simp; done) | (go_simp; rfl)) rfl ⟨rfl, _, ⟨k_p, ow_b1, ne_b1_p⟩, hs2, off0⟩
end Go.Proofs.Ytlbgelbhhibikaa

namespace Go.Proofs.Ytlbgelbhhibikaa
set_option maxHeartbeats 4000000
set_option maxRecDepth 100000
open Go.RowKit
theorem rflag_0 (p : Nat) (v : Value) (r : List UInt8) (w : World) (hrd : Rdr w p v (u8 0 :: r) 0) (hl : (u8 0 :: r).length < 140737488000000) :
  Calls Try.prog 65 #[.pointer (some ⟨p, 0, none⟩)] w fun e w' => e = .returned (.bool false) ∧ ∃ v', RdTo w p v (u8 0 :: r) r 0 v' w' := by
 have off0 : Off [p] w w := Off.refl _ _
 obtain ⟨k_p, ow_b, ne_b_p⟩ := hrd
 have fb_p : Fb p w.heap.size [p] := fun _ => by simp
 go_enter Try.func65, Try.ntmps65
 go_upto_region 1 with fail
 refine wp_region_lit ?_
 refine Lv ?_
 refine Lc ?_ (rbyte_ok p _ (u8 0) r _ ⟨k_p, ow_b, ne_b_p⟩ (by first | omega | (simp only [List.length_append, List.length_cons, List.length_nil]; omega))) (v := .int .i64 0)
 rintro W1 ⟨v_b1, hto⟩
 have hO := hto.off
 have kk := hto.rd.1
 have hv2 := hto.rd.2.1
 have hs2 := hto.sub
 clear hto
 replace off0 := off0.p hO fb_p
 replace k_p := kk
 clear kk hO
 have ow_b1 := hv2
 clear hv2
 have ne_b1_p : sb v_b1 r ≠ some p := sub_ne hs2 ne_b_p
 clear ow_b ne_b_p
 refine Lw ?_ (v := .int .i64 0)
 refine wpL_nil ?_
 go_wp2
 exact bodyPost_ret (v := .bool false) (by simp only [results, Try.results65]; first | (go_simp; done) | (go_simp; rfl)) rfl ⟨rfl, _, ⟨k_p, ow_b1, ne_b1_p⟩, hs2, off0⟩
end Go.Proofs.Ytlbgelbhhibikaa

namespace Go.Proofs.Ytlbgelbhhibikaa
set_option maxHeartbeats 4000000
set_option maxRecDepth 100000
open Go.RowKit
theorem rflag_1 (p : Nat) (v : Value) (r : List UInt8) (w : World) (hrd : Rdr w p v (u8 1 :: r) 0) (hl : (u8 1 :: r).length < 140737488000000) :
  Calls Try.prog 65 #[.pointer (some ⟨p, 0, none⟩)] w fun e w' => e = .returned (.bool true) ∧ ∃ v', RdTo w p v (u8 1 :: r) r 0 v' w' := by
 have off0 : Off [p] w w := Off.refl _ _
 obtain ⟨k_p, ow_b, ne_b_p⟩ := hrd
 have fb_p : Fb p w.heap.size [p] := fun _ => by simp
 go_enter Try.func65, Try.ntmps65
 go_upto_region 1 with fail
 refine wp_region_lit ?_
 refine Lv ?_
 refine Lc ?_ (rbyte_ok p _ (u8 1) r _ ⟨k_p, ow_b, ne_b_p⟩ (by first | omega | (simp only [List.length_append, List.length_cons, List.length_nil]; omega))) (v := .int .i64 1)
 rintro W1 ⟨v_b1, hto⟩
 have hO := hto.off
 have kk := hto.rd.1
 have hv2 := hto.rd.2.1
 have hs2 := hto.sub
 clear hto
 replace off0 := off0.p hO fb_p
 replace k_p := kk
 clear kk hO
 have ow_b1 := hv2
 clear hv2
 have ne_b1_p : sb v_b1 r ≠ some p := sub_ne hs2 ne_b_p
 clear ow_b ne_b_p
 refine Lw ?_ (v := .int .i64 1)
 refine wpL_nil ?_
 go_wp2
 exact bodyPost_ret (v := .bool true) (by simp only [results, Try.results65]; first | (go_simp; done) | (go_simp; rfl)) rfl ⟨rfl, _, ⟨k_p, ow_b1, ne_b1_p⟩, hs2, off0⟩
end Go.Proofs.Ytlbgelbhhibikaa

namespace Go.Proofs.Ytlbgelbhhibikaa
set_option maxHeartbeats 4000000
set_option maxRecDepth 100000
open Go.RowKit
section
variable {w : World} {o : Oper} {a : Act}
theorem run_shl8 {x : Operand} {t : TypeId} {Y : Nat} (ho : o.op = .binOp .shl 3 x (.const (.int .u64 8)) t) (hx : a.eval x = .int .i64 (IntKind.wrap .i64 (Y : Int))) : (execOp a.eval o).run Try.prog w = .ok (.value (.int .i64 (IntKind.wrap .i64 ((Y * 256 : Nat) : Int)))) w := by
  have h := shl8 Y
  simp only [execOp, ho, hx]
  go_simp
theorem run_or8 {x y : Operand} {t : TypeId} {Y z Y' : Nat} (hz : z < 256) (hY : Y' = Y * 256 + z) (ho : o.op = .binOp .or 3 x y t) (hx : a.eval x = .int .i64 (IntKind.wrap .i64 ((Y * 256 : Nat) : Int))) (hy : a.eval y = .int .i64 (z : Int)) : (execOp a.eval o).run Try.prog w = .ok (.value (.int .i64 (IntKind.wrap .i64 (Y' : Int)))) w := by
  have h := or8 Y z hz
  subst hY
  simp only [execOp, ho, hx, hy]
  go_simp
  rw [show ((Y * 256 : Nat) : Int) = (Y : Int) * 256 by omega, show ((Y * 256 + z : Nat) : Int) = (Y : Int) * 256 + z by omega] at h
  exact h
end
end Go.Proofs.Ytlbgelbhhibikaa

namespace Go.Proofs.Ytlbgelbhhibikaa
set_option maxHeartbeats 4000000
set_option maxRecDepth 100000
open Go.RowKit
theorem be8_val (X : Nat) (hX : X < 18446744073709551616) : ((((((((0 * 256 + (u8 (X / 72057594037927936)).toNat) * 256 + (u8 (X / 281474976710656)).toNat) * 256 + (u8 (X / 1099511627776)).toNat) * 256 + (u8 (X / 4294967296)).toNat) * 256 + (u8 (X / 16777216)).toNat) * 256 + (u8 (X / 65536)).toNat) * 256 + (u8 (X / 256)).toNat) * 256 + (u8 X).toNat) = X := by
  simp only [u8_nat]
  omega
end Go.Proofs.Ytlbgelbhhibikaa

namespace Go.Proofs.Ytlbgelbhhibikaa
set_option maxHeartbeats 4000000
set_option maxRecDepth 100000
open Go.RowKit
theorem rnum_ok (p : Nat) (v : Value) (X : Nat) (hX : X < 18446744073709551616) (r : List UInt8) (w : World) (hrd : Rdr w p v (be8 X ++ r) 0) (hl : (be8 X ++ r).length < 140737488000000) :
  Calls Try.prog 40 #[.pointer (some ⟨p, 0, none⟩)] w fun e w' => e = .returned (.int .i64 (IntKind.wrap .i64 (X : Int))) ∧ ∃ v', RdTo w p v (be8 X ++ r) r 0 v' w' := by
 obtain ⟨Y1, hY1⟩ : ∃ Y : Nat, Y = 0 * 256 + (u8 (X / 72057594037927936)).toNat := ⟨_, rfl⟩
 have HY1 := Lib.hid hY1
 clear hY1
 obtain ⟨Y2, hY2⟩ : ∃ Y : Nat, Y = Y1 * 256 + (u8 (X / 281474976710656)).toNat := ⟨_, rfl⟩
 have HY2 := Lib.hid hY2
 clear hY2
 obtain ⟨Y3, hY3⟩ : ∃ Y : Nat, Y = Y2 * 256 + (u8 (X / 1099511627776)).toNat := ⟨_, rfl⟩
 have HY3 := Lib.hid hY3
 clear hY3
 obtain ⟨Y4, hY4⟩ : ∃ Y : Nat, Y = Y3 * 256 + (u8 (X / 4294967296)).toNat := ⟨_, rfl⟩
 have HY4 := Lib.hid hY4
 clear hY4
 obtain ⟨Y5, hY5⟩ : ∃ Y : Nat, Y = Y4 * 256 + (u8 (X / 16777216)).toNat := ⟨_, rfl⟩
 have HY5 := Lib.hid hY5
 clear hY5
 obtain ⟨Y6, hY6⟩ : ∃ Y : Nat, Y = Y5 * 256 + (u8 (X / 65536)).toNat := ⟨_, rfl⟩
 have HY6 := Lib.hid hY6
 clear hY6
 obtain ⟨Y7, hY7⟩ : ∃ Y : Nat, Y = Y6 * 256 + (u8 (X / 256)).toNat := ⟨_, rfl⟩
 have HY7 := Lib.hid hY7
 clear hY7
 obtain ⟨Y8, hY8⟩ : ∃ Y : Nat, Y = Y7 * 256 + (u8 X).toNat := ⟨_, rfl⟩
 have HY8 := Lib.hid hY8
 clear hY8
 have off0 : Off [p] w w := Off.refl _ _
 obtain ⟨k_p, ow_b, ne_b_p⟩ := hrd
 have fb_p : Fb p w.heap.size [p] := fun _ => by simp
 go_enter Try.func40, Try.ntmps40
 go_upto_region 2 with fail
 refine wp_region_lit ?_
 refine Lv ?_
 refine wpL_call (R := fun u W => Sl W u (List.take 8 (be8 X ++ r)) ∧ Sub u (List.take 8 (be8 X ++ r)) (sb v (be8 X ++ r)) ∧ (0 < 8 → ∃ ad c, u = .slice (some ad) 8 c) ∧ ∃ v2, RdTo w p v (be8 X ++ r) (List.drop 8 (be8 X ++ r)) 0 v2 W) ((take_ok p v (be8 X ++ r) w ⟨k_p, ow_b, ne_b_p⟩ 8 (by rw [List.length_append, show (be8 X).length = 8 from rfl]; omega) (by first | omega | (simp only [List.length_append, List.length_cons, List.length_nil]; omega))).mono fun _ _ h => h) (by rfl) rfl (by kernel_rfl) rfl ?_
 (try simp only [Act.put, mA, mB, mC])
 rintro u7_0 W1 ⟨hu, hsu, hso, v_b1, hto⟩
 (try simp only [Act.put, mA, mB, mC])
 have hO := hto.off
 have kk := hto.rd.1
 have hv2 := hto.rd.2.1
 have hs2 := hto.sub
 clear hto
 replace off0 := off0.p hO fb_p
 replace k_p := kk
 clear kk hO
 have ow_h7 := hu
 have ow_b1 := hv2
 clear hu hv2
 have ne_b1_p : sb v_b1 (List.drop 8 (be8 X ++ r)) ≠ some p := sub_ne hs2 ne_b_p
 refine wpL_lenn (n := 8) rfl ow_h7 (by rfl) rfl rfl ?_
 (try simp only [Act.put, mA, mB, mC])
 refine Lw ?_ (v := .int .i64 0)
 refine wpL_nil ?_
 go_wp2_with fail
 refine wp_loop_rounds 9 ?_
 rw [rounds_succ]
 go_upto_region 4 with fail
 refine wp_region_lit ?_
 refine wpL_ixs (j := 0) (c := u8 (X / 72057594037927936)) ow_h7 rfl (by rfl) rfl rfl rfl ?_
 (try simp only [Act.put, mA, mB, mC])
 intro adr hadr
 refine wpL_at (by rfl) rfl rfl hadr (by kernel_rfl) ?_
 (try simp only [Act.put, mA, mB, mC])
 refine Lv ?_
 refine wpL_nil ?_
 go_upto_region 5 with fail
 refine wp_region_lit ?_
 refine Lw ?_ (v := .int .i64 0)
 refine Lw ?_ (v := .int .i64 (IntKind.wrap .i64 ((0 * 256 : Nat) : Int))) (hv := by exact run_shl8 (Y := 0) rfl rfl)
 refine Lv ?_
 refine Lw ?_ (v := .int .i64 ((u8 (X / 72057594037927936)).toNat : Int)) (hv := by have := (u8 (X / 72057594037927936)).toNat_lt; go_simp; (try simp only [IntKind.wrap_i64]); (try omega))
 refine Lw ?_ (v := .int .i64 (IntKind.wrap .i64 ((Y1 : Nat) : Int))) (hv := by exact run_or8 (Y := 0) (UInt8.toNat_lt _) HY1.out rfl rfl rfl)
 refine Lv ?_
 refine wpL_nil ?_
 go_wp2_with fail
 rw [rounds_succ]
 go_upto_region 4 with fail
 refine wp_region_lit ?_
 refine wpL_ixs (j := 1) (c := u8 (X / 281474976710656)) ow_h7 rfl (by rfl) rfl rfl rfl ?_
 (try simp only [Act.put, mA, mB, mC])
 intro adr hadr
 refine wpL_at (by rfl) rfl rfl hadr (by kernel_rfl) ?_
 (try simp only [Act.put, mA, mB, mC])
 refine Lv ?_
 refine wpL_nil ?_
 go_upto_region 5 with fail
 refine wp_region_lit ?_
 refine Lv ?_
 refine Lw ?_ (v := .int .i64 (IntKind.wrap .i64 ((Y1 * 256 : Nat) : Int))) (hv := by exact run_shl8 (Y := Y1) rfl rfl)
 refine Lv ?_
 refine Lw ?_ (v := .int .i64 ((u8 (X / 281474976710656)).toNat : Int)) (hv := by have := (u8 (X / 281474976710656)).toNat_lt; go_simp; (try simp only [IntKind.wrap_i64]); (try omega))
 refine Lw ?_ (v := .int .i64 (IntKind.wrap .i64 ((Y2 : Nat) : Int))) (hv := by exact run_or8 (Y := Y1) (UInt8.toNat_lt _) HY2.out rfl rfl rfl)
 refine Lv ?_
 refine wpL_nil ?_
 go_wp2_with fail
 rw [rounds_succ]
 go_upto_region 4 with fail
 refine wp_region_lit ?_
 refine wpL_ixs (j := 2) (c := u8 (X / 1099511627776)) ow_h7 rfl (by rfl) rfl rfl rfl ?_
 (try simp only [Act.put, mA, mB, mC])
 intro adr hadr
 refine wpL_at (by rfl) rfl rfl hadr (by kernel_rfl) ?_
 (try simp only [Act.put, mA, mB, mC])
 refine Lv ?_
 refine wpL_nil ?_
 go_upto_region 5 with fail
 refine wp_region_lit ?_
 refine Lv ?_
 refine Lw ?_ (v := .int .i64 (IntKind.wrap .i64 ((Y2 * 256 : Nat) : Int))) (hv := by exact run_shl8 (Y := Y2) rfl rfl)
 refine Lv ?_
 refine Lw ?_ (v := .int .i64 ((u8 (X / 1099511627776)).toNat : Int)) (hv := by have := (u8 (X / 1099511627776)).toNat_lt; go_simp; (try simp only [IntKind.wrap_i64]); (try omega))
 refine Lw ?_ (v := .int .i64 (IntKind.wrap .i64 ((Y3 : Nat) : Int))) (hv := by exact run_or8 (Y := Y2) (UInt8.toNat_lt _) HY3.out rfl rfl rfl)
 refine Lv ?_
 refine wpL_nil ?_
 go_wp2_with fail
 rw [rounds_succ]
 go_upto_region 4 with fail
 refine wp_region_lit ?_
 refine wpL_ixs (j := 3) (c := u8 (X / 4294967296)) ow_h7 rfl (by rfl) rfl rfl rfl ?_
 (try simp only [Act.put, mA, mB, mC])
 intro adr hadr
 refine wpL_at (by rfl) rfl rfl hadr (by kernel_rfl) ?_
 (try simp only [Act.put, mA, mB, mC])
 refine Lv ?_
 refine wpL_nil ?_
 go_upto_region 5 with fail
 refine wp_region_lit ?_
 refine Lv ?_
 refine Lw ?_ (v := .int .i64 (IntKind.wrap .i64 ((Y3 * 256 : Nat) : Int))) (hv := by exact run_shl8 (Y := Y3) rfl rfl)
 refine Lv ?_
 refine Lw ?_ (v := .int .i64 ((u8 (X / 4294967296)).toNat : Int)) (hv := by have := (u8 (X / 4294967296)).toNat_lt; go_simp; (try simp only [IntKind.wrap_i64]); (try omega))
 refine Lw ?_ (v := .int .i64 (IntKind.wrap .i64 ((Y4 : Nat) : Int))) (hv := by exact run_or8 (Y := Y3) (UInt8.toNat_lt _) HY4.out rfl rfl rfl)
 refine Lv ?_
 refine wpL_nil ?_
 go_wp2_with fail
 rw [rounds_succ]
 go_upto_region 4 with fail
 refine wp_region_lit ?_
 refine wpL_ixs (j := 4) (c := u8 (X / 16777216)) ow_h7 rfl (by rfl) rfl rfl rfl ?_
 (try simp only [Act.put, mA, mB, mC])
 intro adr hadr
 refine wpL_at (by rfl) rfl rfl hadr (by kernel_rfl) ?_
 (try simp only [Act.put, mA, mB, mC])
 refine Lv ?_
 refine wpL_nil ?_
 go_upto_region 5 with fail
 refine wp_region_lit ?_
 refine Lv ?_
 refine Lw ?_ (v := .int .i64 (IntKind.wrap .i64 ((Y4 * 256 : Nat) : Int))) (hv := by exact run_shl8 (Y := Y4) rfl rfl)
 refine Lv ?_
 refine Lw ?_ (v := .int .i64 ((u8 (X / 16777216)).toNat : Int)) (hv := by have := (u8 (X / 16777216)).toNat_lt; go_simp; (try simp only [IntKind.wrap_i64]); (try omega))
 refine Lw ?_ (v := .int .i64 (IntKind.wrap .i64 ((Y5 : Nat) : Int))) (hv := by exact run_or8 (Y := Y4) (UInt8.toNat_lt _) HY5.out rfl rfl rfl)
 refine Lv ?_
 refine wpL_nil ?_
 go_wp2_with fail
 rw [rounds_succ]
 go_upto_region 4 with fail
 refine wp_region_lit ?_
 refine wpL_ixs (j := 5) (c := u8 (X / 65536)) ow_h7 rfl (by rfl) rfl rfl rfl ?_
 (try simp only [Act.put, mA, mB, mC])
 intro adr hadr
 refine wpL_at (by rfl) rfl rfl hadr (by kernel_rfl) ?_
 (try simp only [Act.put, mA, mB, mC])
 refine Lv ?_
 refine wpL_nil ?_
 go_upto_region 5 with fail
 refine wp_region_lit ?_
 refine Lv ?_
 refine Lw ?_ (v := .int .i64 (IntKind.wrap .i64 ((Y5 * 256 : Nat) : Int))) (hv := by exact run_shl8 (Y := Y5) rfl rfl)
 refine Lv ?_
 refine Lw ?_ (v := .int .i64 ((u8 (X / 65536)).toNat : Int)) (hv := by have := (u8 (X / 65536)).toNat_lt; go_simp; (try simp only [IntKind.wrap_i64]); (try omega))
 refine Lw ?_ (v := .int .i64 (IntKind.wrap .i64 ((Y6 : Nat) : Int))) (hv := by exact run_or8 (Y := Y5) (UInt8.toNat_lt _) HY6.out rfl rfl rfl)
 refine Lv ?_
 refine wpL_nil ?_
 go_wp2_with fail
 rw [rounds_succ]
 go_upto_region 4 with fail
 refine wp_region_lit ?_
 refine wpL_ixs (j := 6) (c := u8 (X / 256)) ow_h7 rfl (by rfl) rfl rfl rfl ?_
 (try simp only [Act.put, mA, mB, mC])
 intro adr hadr
 refine wpL_at (by rfl) rfl rfl hadr (by kernel_rfl) ?_
 (try simp only [Act.put, mA, mB, mC])
 refine Lv ?_
 refine wpL_nil ?_
 go_upto_region 5 with fail
 refine wp_region_lit ?_
 refine Lv ?_
 refine Lw ?_ (v := .int .i64 (IntKind.wrap .i64 ((Y6 * 256 : Nat) : Int))) (hv := by exact run_shl8 (Y := Y6) rfl rfl)
 refine Lv ?_
 refine Lw ?_ (v := .int .i64 ((u8 (X / 256)).toNat : Int)) (hv := by have := (u8 (X / 256)).toNat_lt; go_simp; (try simp only [IntKind.wrap_i64]); (try omega))
 refine Lw ?_ (v := .int .i64 (IntKind.wrap .i64 ((Y7 : Nat) : Int))) (hv := by exact run_or8 (Y := Y6) (UInt8.toNat_lt _) HY7.out rfl rfl rfl)
 refine Lv ?_
 refine wpL_nil ?_
 go_wp2_with fail
 rw [rounds_succ]
 go_upto_region 4 with fail
 refine wp_region_lit ?_
 refine wpL_ixs (j := 7) (c := u8 X) ow_h7 rfl (by rfl) rfl rfl rfl ?_
 (try simp only [Act.put, mA, mB, mC])
 intro adr hadr
 refine wpL_at (by rfl) rfl rfl hadr (by kernel_rfl) ?_
 (try simp only [Act.put, mA, mB, mC])
 refine Lv ?_
 refine wpL_nil ?_
 go_upto_region 5 with fail
 refine wp_region_lit ?_
 refine Lv ?_
 refine Lw ?_ (v := .int .i64 (IntKind.wrap .i64 ((Y7 * 256 : Nat) : Int))) (hv := by exact run_shl8 (Y := Y7) rfl rfl)
 refine Lv ?_
 refine Lw ?_ (v := .int .i64 ((u8 X).toNat : Int)) (hv := by have := (u8 X).toNat_lt; go_simp; (try simp only [IntKind.wrap_i64]); (try omega))
 refine Lw ?_ (v := .int .i64 (IntKind.wrap .i64 ((Y8 : Nat) : Int))) (hv := by exact run_or8 (Y := Y7) (UInt8.toNat_lt _) HY8.out rfl rfl rfl)
 refine Lv ?_
 refine wpL_nil ?_
 go_wp2_with fail
 rw [rounds_succ]
 go_wp2
 exact bodyPost_ret (v := .int .i64 (IntKind.wrap .i64 ((Y8 : Nat) : Int))) (by simp only [results, Try.results40]; first | (go_simp; done) | (go_simp; rfl)) rfl ⟨by rw [HY8.out, HY7.out, HY6.out, HY5.out, HY4.out, HY3.out, HY2.out, HY1.out, be8_val X hX], _, ⟨k_p, ow_b1, ne_b1_p⟩, hs2, off0⟩
end Go.Proofs.Ytlbgelbhhibikaa

namespace Go.Proofs.Ytlbgelbhhibikaa
set_option maxHeartbeats 4000000
set_option maxRecDepth 100000
open Go.RowKit
attribute [local irreducible] wpList
theorem rend_ok (p : Nat) (v : Value) (w : World) (hrd : Rdr w p v ([]) 0) :
  Calls Try.prog 61 #[.pointer (some ⟨p, 0, none⟩)] w fun e w' => Ret (.int .i64 0) w w' e := by
 have off0 : Off [] w w := Off.refl _ _
 obtain ⟨k_p, ow_b, ne_b_p⟩ := hrd
 go_enter Try.func61, Try.ntmps61
 go_upto_region 3 with fail
 refine wp_region_lit ?_
 refine Lv ?_
 refine Lv ?_
 refine Lv ?_
 refine Lg ?_ k_p (v := .int .i64 0)
 refine Lw ?_ (v := .bool true)
 refine Lw ?_ (v := .bool true)
 refine Lv ?_
 refine Lv ?_
 refine Lv ?_
 refine Lg ?_ k_p (v := v)
 refine wpL_len (l := []) ow_b (by rfl) rfl rfl ?_
 (try simp only [Act.put, mA, mB, mC])
 refine Lw ?_ (v := .bool false)
 refine Lw ?_ (v := .bool false)
 refine Lw ?_ (v := .bool false)
 refine wpL_nil ?_
 go_upto_region 5 with fail
 refine wp_region_lit ?_
 refine Lv ?_
 refine Lv ?_
 refine Lv ?_
 refine Lg ?_ k_p (v := .int .i64 0)
 refine Lw ?_ (v := .int .i64 0)
 refine wpL_nil ?_
 go_wp2
 exact bodyPost_ret (v := .int .i64 0) (by simp only [results, Try.results61]; first | (go_simp; done) | (go_simp; rfl)) rfl ⟨rfl, off0.ext⟩
end Go.Proofs.Ytlbgelbhhibikaa

namespace Go.Proofs.Ytlbgelbhhibikaa
set_option maxHeartbeats 4000000
set_option maxRecDepth 100000
open Go.RowKit
attribute [local irreducible] wpList
theorem rend_tail (p : Nat) (v : Value) (c : UInt8) (r : List UInt8) (w : World) (hrd : Rdr w p v (c :: r) 0) :
  Calls Try.prog 61 #[.pointer (some ⟨p, 0, none⟩)] w fun e w' => Ret (.int .i64 4) w w' e := by
 have off0 : Off [] w w := Off.refl _ _
 obtain ⟨k_p, ow_b, ne_b_p⟩ := hrd
 go_enter Try.func61, Try.ntmps61
 go_upto_region 3 with fail
 refine wp_region_lit ?_
 refine Lv ?_
 refine Lv ?_
 refine Lv ?_
 refine Lg ?_ k_p (v := .int .i64 0)
 refine Lw ?_ (v := .bool true)
 refine Lw ?_ (v := .bool true)
 refine Lv ?_
 refine Lv ?_
 refine Lv ?_
 refine Lg ?_ k_p (v := v)
 refine wpL_len (l := (c :: r)) ow_b (by rfl) rfl rfl ?_
 (try simp only [Act.put, mA, mB, mC])
 refine Lw ?_ (v := .bool true)
 refine Lw ?_ (v := .bool true)
 refine Lw ?_ (v := .bool true)
 refine wpL_nil ?_
 go_wp2
 exact bodyPost_ret (v := .int .i64 4) (by simp only [results, Try.results61]; first | (go_simp; done) | (go_simp; rfl)) rfl ⟨rfl, off0.ext⟩
end Go.Proofs.Ytlbgelbhhibikaa

namespace Go.Proofs.Ytlbgelbhhibikaa
set_option maxHeartbeats 4000000
set_option maxRecDepth 100000
open Go.RowKit
attribute [local irreducible] wpList
end Go.Proofs.Ytlbgelbhhibikaa

namespace Go.Proofs.Ytlbgelbhhibikaa
set_option maxHeartbeats 4000000
set_option maxRecDepth 100000
open Go.RowKit
attribute [local irreducible] wpList
theorem txt1 (a b : UInt8) (T r : List UInt8) {m : Nat} (hm : T.length = m) : List.drop 2 (List.take (2 + m) (a :: b :: (T ++ r))) = T := by
  rw [Nat.add_comm]
  show List.take m (T ++ r) = T
  rw [List.take_append_of_le_length (by omega), List.take_of_length_le (by omega)]
end Go.Proofs.Ytlbgelbhhibikaa

namespace Go.Proofs.Ytlbgelbhhibikaa
set_option maxHeartbeats 4000000
set_option maxRecDepth 100000
open Go.RowKit
attribute [local irreducible] wpList
theorem txt2 (a b : UInt8) (T r : List UInt8) {m : Nat} (hm : T.length = m) : List.drop (2 + m) (a :: b :: (T ++ r)) = r := by
  rw [Nat.add_comm]
  show List.drop m (T ++ r) = r
  rw [List.drop_append, List.drop_eq_nil_of_le (by omega), hm]; simp
end Go.Proofs.Ytlbgelbhhibikaa

namespace Go.Proofs.Ytlbgelbhhibikaa
set_option maxHeartbeats 4000000
set_option maxRecDepth 100000
open Go.RowKit
attribute [local irreducible] wpList
theorem or_two (m : Nat) (hm : m ≤ 65535) : bits .or .i64 (((u8 (m / 256)).toNat : Int) * 256) ((u8 m).toNat : Int) = (m : Int) := by
  have h := or8 (m / 256) (m % 256) (by omega)
  have e1 : IntKind.wrap .i64 ((m / 256 * 256 : Nat) : Int) = ((u8 (m / 256)).toNat : Int) * 256 := by rw [IntKind.wrap_i64, u8_nat]; omega
  have e2 : IntKind.wrap .i64 ((m / 256 * 256 + m % 256 : Nat) : Int) = (m : Int) := by rw [IntKind.wrap_i64]; omega
  rw [e1, e2] at h
  rw [u8_nat m]
  exact h
end Go.Proofs.Ytlbgelbhhibikaa

namespace Go.Proofs.Ytlbgelbhhibikaa
set_option maxHeartbeats 4000000
set_option maxRecDepth 100000
open Go.RowKit
attribute [local irreducible] wpList
theorem rtext_ok (p m : Nat) (v : Value) (T r : List UInt8) (hm : T.length = m) (hm2 : m ≤ 65535) (most : Int) (hmost : (m : Int) ≤ most) (w : World) (hrd : Rdr w p v (u8 (m / 256) :: u8 m :: (T ++ r)) 0) (hl : (u8 (m / 256) :: u8 m :: (T ++ r)).length < 140737488000000) :
  Calls Try.prog 38 #[.pointer (some ⟨p, 0, none⟩), .int .i64 most] w fun e w' => ∃ u, e = .returned u ∧ Own w' u T ∧ Fr u.ownBlock w.heap.size [] ∧ ∃ v', RdTo w p v (u8 (m / 256) :: u8 m :: (T ++ r)) r 0 v' w' := by
 obtain ⟨adb, cb, rfl, hcell⟩ := sl_form hrd.2.1 (by simp)
 have hor := or_two m hm2
 have hlen : (u8 (m / 256) :: u8 m :: (T ++ r)).length = 2 + m + r.length := by simp; omega
 have hm0 : (0 : Int) ≤ (m : Int) := Int.natCast_nonneg _
 have hm1 : (m : Int) ≤ 65535 := by omega
 have off0 : Off [p] w w := Off.refl _ _
 obtain ⟨k_p, ow_b, ne_b_p⟩ := hrd
 have fb_p : Fb p w.heap.size [p] := fun _ => by simp
 go_enter Try.func38, Try.ntmps38
 go_upto_region 1 with fail
 refine wp_region_lit ?_
 refine Lv ?_
 refine Lw ?_ (v := .bool false)
 refine Lw ?_ (v := .bool false)
 refine Lv ?_
 refine Lv ?_
 refine Lv ?_
 refine Lg ?_ k_p (v := .int .i64 0)
 refine Lw ?_ (v := .bool false)
 refine Lw ?_ (v := .bool false)
 refine wpL_nil ?_
 go_upto_region 3 with fail
 refine wp_region_lit ?_
 refine Lv ?_
 refine Lv ?_
 refine Lv ?_
 refine Lg ?_ k_p (v := .slice (some adb) (u8 (m / 256) :: u8 m :: (T ++ r)).length cb)
 refine wpL_len (l := (u8 (m / 256) :: u8 m :: (T ++ r))) ow_b (by rfl) rfl rfl ?_
 (try simp only [Act.put, mA, mB, mC])
 refine Lw ?_ (v := .bool false)
 refine wpL_nil ?_
 go_upto_region 6 with fail
 refine wp_region_xn 17 [] (by kernel_rfl) (fun x hx => by cases hx) (by kernel_rfl) ?_
 simp only [List.take_succ_cons, List.take_zero, List.take_nil]
 (try simp only [Act.put, mA, mB, mC])
 refine Xv ?_
 refine Xv ?_
 refine Xv ?_
 refine Xc ?_ (v := .slice (some adb) (u8 (m / 256) :: u8 m :: (T ++ r)).length cb) (blk_rd k_p)
 (refine wpX_val (v := .pointer (some (adb.add 0))) (by rfl) (fun W hW => run_ixa (j := 0) (by omega) rfl rfl rfl) ?_)
 (try simp only [Act.put, mA, mB, mC])
 refine wpX_at (v := .int .u8 ((u8 (m / 256)).toNat : Int)) (by rfl) rfl rfl (fun W hW => cell_ext (hcell 0 (u8 (m / 256)) rfl) hW) (by kernel_rfl) ?_
 (try simp only [Act.put, mA, mB, mC])
 (refine wpX_val (v := .int .i64 ((u8 (m / 256)).toNat : Int)) (by rfl) (fun W hW => by have := (u8 (m / 256)).toNat_lt; go_simp; (try simp only [IntKind.wrap_i64]); (try omega)) ?_)
 (try simp only [Act.put, mA, mB, mC])
 (refine wpX_val (v := .int .i64 (((u8 (m / 256)).toNat : Int) * 256)) (by rfl) (fun W hW => by have := (u8 (m / 256)).toNat_lt; go_simp; (try simp only [IntKind.wrap_i64]); (try omega)) ?_)
 (try simp only [Act.put, mA, mB, mC])
 refine Xv ?_
 refine Xv ?_
 refine Xv ?_
 refine Xc ?_ (v := .slice (some adb) (u8 (m / 256) :: u8 m :: (T ++ r)).length cb) (blk_rd k_p)
 (refine wpX_val (v := .pointer (some (adb.add 1))) (by rfl) (fun W hW => run_ixa (j := 1) (by omega) rfl rfl rfl) ?_)
 (try simp only [Act.put, mA, mB, mC])
 refine wpX_at (v := .int .u8 ((u8 m).toNat : Int)) (by rfl) rfl rfl (fun W hW => cell_ext (hcell 1 (u8 m) rfl) hW) (by kernel_rfl) ?_
 (try simp only [Act.put, mA, mB, mC])
 (refine wpX_val (v := .int .i64 ((u8 m).toNat : Int)) (by rfl) (fun W hW => by have := (u8 m).toNat_lt; go_simp; (try simp only [IntKind.wrap_i64]); (try omega)) ?_)
 (try simp only [Act.put, mA, mB, mC])
 (refine wpX_val (v := .int .i64 (m : Int)) (by rfl) (fun W hW => by have h8 := hor; go_simp) ?_)
 (try simp only [Act.put, mA, mB, mC])
 refine Xv ?_
 refine wpX_nil ?_
 intro β W1 hE hN hD
 clear hN hD
 simp only [putAll, Act.put, mA, mB, mC, List.drop_succ_cons, List.drop_zero, List.drop_nil, List.length_nil, Nat.add_zero]
 have hO := off_ext hE
 replace k_p := k_p.o hO
 replace ow_b := Sl.off ow_b hO f0
 replace off0 := off0.o hO
 clear hO hE β
 refine LN ?_
 go_upto_region 7 with fail
 refine wp_region_lit ?_
 refine Lv ?_
 refine Lv ?_
 refine Lw ?_ (v := .bool false)
 refine Lw ?_ (v := .bool false)
 refine wpL_nil ?_
 go_upto_region 10 with fail
 refine wp_region_lit ?_
 refine Lv ?_
 refine Lv ?_
 refine Lv ?_
 refine Lg ?_ k_p (v := .slice (some adb) (u8 (m / 256) :: u8 m :: (T ++ r)).length cb)
 refine wpL_len (l := (u8 (m / 256) :: u8 m :: (T ++ r))) ow_b (by rfl) rfl rfl ?_
 (try simp only [Act.put, mA, mB, mC])
 refine Lv ?_
 refine Lw ?_ (v := .int .i64 ((2 + m : Nat) : Int)) (hv := by go_simp; (try simp only [IntKind.wrap_i64]); (try omega))
 refine Lw ?_ (v := .bool false)
 refine Lw ?_ (v := .bool false)
 refine wpL_nil ?_
 go_upto_region 13 with fail
 refine wp_region_lit ?_
 refine Lv ?_
 refine Lv ?_
 refine Lw ?_ (v := .int .i64 ((2 + m : Nat) : Int)) (hv := by go_simp; (try simp only [IntKind.wrap_i64]); (try omega))
 refine wpL_call (R := fun u W => Sl W u (List.take (2 + m) (u8 (m / 256) :: u8 m :: (T ++ r))) ∧ Sub u (List.take (2 + m) (u8 (m / 256) :: u8 m :: (T ++ r))) (sb (.slice (some adb) (u8 (m / 256) :: u8 m :: (T ++ r)).length cb) (u8 (m / 256) :: u8 m :: (T ++ r))) ∧ (0 < (2 + m) → ∃ ad c, u = .slice (some ad) (2 + m) c) ∧ ∃ v2, RdTo W1 p (.slice (some adb) (u8 (m / 256) :: u8 m :: (T ++ r)).length cb) (u8 (m / 256) :: u8 m :: (T ++ r)) (List.drop (2 + m) (u8 (m / 256) :: u8 m :: (T ++ r))) 0 v2 W) ((take_ok p (.slice (some adb) (u8 (m / 256) :: u8 m :: (T ++ r)).length cb) (u8 (m / 256) :: u8 m :: (T ++ r)) W1 ⟨k_p, ow_b, ne_b_p⟩ (2 + m) (by rw [hlen]; omega) (by first | omega | (rw [List.length_drop, List.length_take, hlen]; omega))).mono fun _ _ h => h) (by rfl) rfl (by kernel_rfl) rfl ?_
 (try simp only [Act.put, mA, mB, mC])
 rintro u62_1 W2 ⟨hu, hsu, hso, v_b1, hto⟩
 (try simp only [Act.put, mA, mB, mC])
 have hO := hto.off
 have kk := hto.rd.1
 have hv2 := hto.rd.2.1
 have hs2 := hto.sub
 clear hto
 replace off0 := off0.p hO fb_p
 replace k_p := kk
 clear kk hO
 have ow_h62 := hu
 have ow_b1 := hv2
 clear hu hv2
 have ne_b1_p : sb v_b1 (List.drop (2 + m) (u8 (m / 256) :: u8 m :: (T ++ r))) ≠ some p := sub_ne hs2 ne_b_p
 refine wpL_tail (n := 2) ow_h62 (by rw [List.length_take, hlen]; omega) (by rfl) rfl rfl rfl ?_
 (try simp only [Act.put, mA, mB, mC])
 intro u63_2 ow_c63 sub_c63
 refine wpL_call (R := fun v W => NewB W2 (List.drop 2 (List.take (2 + m) (u8 (m / 256) :: u8 m :: (T ++ r)))) v W) ((clone_c ow_c63 (by first | omega | (rw [List.length_drop, List.length_take, hlen]; omega))).mono fun _ _ h => h) (by rfl) rfl (by kernel_rfl) rfl ?_
 (try simp only [Act.put, mA, mB, mC])
 rintro v_c2 W3 hnb
 have hO := hnb.off
 have ow_c2 := hnb.own
 have at_c2 : Of (Value.ownBlock v_c2) none W2.heap.size := hnb.fr
 clear hnb
 have ne_c2_p := own_ne at_c2 (fun h => by cases h) (blk_lt k_p)
 have fr_c2 : Fr (Value.ownBlock v_c2) w.heap.size [p] := own_fr at_c2 fr_none off0.size
 replace k_p := k_p.o hO
 replace ow_b1 := Sl.off ow_b1 hO f0
 replace off0 := off0.o hO
 clear hO at_c2
 refine Lv ?_
 refine wpL_nil ?_
 go_wp2
 have e1 := txt1 (u8 (m / 256)) (u8 m) T r hm
 have e2 := txt2 (u8 (m / 256)) (u8 m) T r hm
 rw [e1] at ow_c2
 rw [e2] at ow_b1 hs2 ne_b1_p
 exact bodyPost_ret (v := v_c2) (by simp only [results, Try.results38]; go_simp) rfl ⟨_, rfl, ow_c2, fr_cons fr_c2 ne_c2_p, _, ⟨k_p, ow_b1, ne_b1_p⟩, hs2, off0⟩
end Go.Proofs.Ytlbgelbhhibikaa

namespace Go.Proofs.Ytlbgelbhhibikaa
set_option maxHeartbeats 4000000
set_option maxRecDepth 100000
open Go.RowKit
attribute [local irreducible] wpList
end Go.Proofs.Ytlbgelbhhibikaa

namespace Go.Proofs.Ytlbgelbhhibikaa
set_option maxHeartbeats 4000000
set_option maxRecDepth 100000
open Go.RowKit
attribute [local irreducible] wpList
theorem read_c (u : Value) (l : List UInt8) (w : World) (hs : Sl w u l) (hl : l.length ≤ 140737488355328) :
  Calls Try.prog 58 #[u] w fun e w' => ∃ p, e = .returned (.pointer (some ⟨p, 0, none⟩)) ∧ ∃ v, Rdr w' p v l 0 ∧ Off [] w w' ∧ Fb p w.heap.size [] ∧ Fr v.ownBlock w.heap.size [] := by
 have off0 : Off [] w w := Off.refl _ _
 have ow_a := hs
 go_enter Try.func58, Try.ntmps58
 go_upto_region 1 with fail
 refine wp_region_lit ?_
 refine Lv ?_
 refine wpL_call (R := fun v W => NewB w l v W) ((clone_c ow_a (by first | omega | (simp only [List.length_append, List.length_cons, List.length_nil]; omega))).mono fun _ _ h => h) (by rfl) rfl (by kernel_rfl) rfl ?_
 (try simp only [Act.put, mA, mB, mC])
 rintro v_c1 W1 hnb
 have hO := hnb.off
 have ow_c1 := hnb.own
 have at_c1 : Of (Value.ownBlock v_c1) none w.heap.size := hnb.fr
 clear hnb
 have fr_c1 : Fr (Value.ownBlock v_c1) w.heap.size [] := own_fr at_c1 fr_none off0.size
 replace off0 := off0.o hO
 clear hO at_c1
 obtain ⟨A5, c5, hv5, _⟩ := Own.len ow_c1
 subst hv5
 refine Lw ?_ (v := .agg #[.slice A5 l.length c5, .int .i64 0]) (hv := by first | rfl | (go_simp; done) | (go_simp; rfl))
 refine Ln ?_ (z := #[.slice A5 l.length c5, .int .i64 0]) (t := 141)
 intro p6_2 W2 n_t6 hO h_
 have ne_c1_t6 := ne_new (Own.lt ow_c1) n_t6
 have fb_t6 := fbn off0 n_t6
 replace ow_c1 := Own.off ow_c1 hO f0
 replace off0 := off0.o hO
 have k_t6 := h_
 clear hO h_ n_t6
 refine Lv ?_
 refine wpL_nil ?_
 go_wp2
 exact bodyPost_ret (v := .pointer (some ⟨p6_2, 0, none⟩)) (by simp only [results, Try.results58]; go_simp) rfl ⟨_, rfl, _, ⟨k_t6, Own.sl ow_c1, ne_sb ne_c1_t6⟩, off0, fb_t6, fr_c1⟩
end Go.Proofs.Ytlbgelbhhibikaa

namespace Go.Proofs.Ytlbgelbhhibikaa
set_option maxHeartbeats 4000000
set_option maxRecDepth 100000
open Go.RowKit
attribute [local irreducible] wpList wpTr
theorem show32 : (bs8 (List.replicate 32 0)).toArray.size = 32 := by rw [List.size_toArray, bs8_length, List.length_replicate]
end Go.Proofs.Ytlbgelbhhibikaa

namespace Go.Proofs.Ytlbgelbhhibikaa
set_option maxHeartbeats 4000000
set_option maxRecDepth 100000
open Go.RowKit
attribute [local irreducible] wpList wpTr
theorem bs8_sz {S : List UInt8} {n : Nat} (h : S.length = n) : (bs8 S).toArray.size = n := by rw [List.size_toArray, bs8_length, h]
end Go.Proofs.Ytlbgelbhhibikaa

namespace Go.Proofs.Ytlbgelbhhibikaa
set_option maxHeartbeats 4000000
set_option maxRecDepth 100000
open Go.RowKit
attribute [local irreducible] wpList wpTr
theorem rsum_ok (p : Nat) (v : Value) (S r : List UInt8) (hS : S.length = 32) (w : World) (hrd : Rdr w p v (S ++ r) 0) (hl : (S ++ r).length < 140737488000000) :
  Calls Try.prog 39 #[.pointer (some ⟨p, 0, none⟩)] w fun e w' => e = .returned (.agg (bs8 S).toArray) ∧ ∃ v', RdTo w p v (S ++ r) r 0 v' w' := by
 have hST : List.take 32 (S ++ r) = S := by rw [List.take_append_of_le_length (by omega), List.take_of_length_le (by omega)]
 have hS32 : (List.take 32 (S ++ r)).length = 32 := by rw [hST, hS]
 have off0 : Off [p] w w := Off.refl _ _
 obtain ⟨k_p, ow_b, ne_b_p⟩ := hrd
 have fb_p : Fb p w.heap.size [p] := fun _ => by simp
 go_enter Try.func39, Try.ntmps39
 go_upto_region 0 with fail
 refine wp_region_lit ?_
 refine Ln ?_ (z := (bs8 (List.replicate 32 0)).toArray) (t := 27)
 intro p2_1 W1 n_t2 hO h_
 have nq_p_t2 := bn k_p n_t2
 have ne_b_t2 := ne_new (Sl.lt ow_b) n_t2
 have fb_t2 := fbn off0 n_t2
 replace k_p := k_p.o hO
 replace ow_b := Sl.off ow_b hO f0
 replace off0 := off0.o hO
 have k_t2 := h_
 clear hO h_ n_t2
 refine wpL_nil ?_
 go_upto_region 1 with fail
 refine wp_region_lit ?_
 refine Ln ?_ (z := (bs8 (List.replicate 32 0)).toArray) (t := 27)
 intro p3_2 W2 n_t3 hO h_
 have nq_p_t3 := bn k_p n_t3
 have nq_t2_t3 := bn k_t2 n_t3
 have ne_b_t3 := ne_new (Sl.lt ow_b) n_t3
 have fb_t3 := fbn off0 n_t3
 replace k_p := k_p.o hO
 replace k_t2 := k_t2.o hO
 replace ow_b := Sl.off ow_b hO f0
 replace off0 := off0.o hO
 have k_t3 := h_
 clear hO h_ n_t3
 refine wpL_nil ?_
 go_upto_region 2 with fail
 refine wp_region_tr (.q 0 (.q 1 (.e 2 (.e 3 .z)))) (fun W => True) (by kernel_rfl) (by kernel_rfl) ?_
 intro W3 hO
 replace k_p := k_p.o hO
 replace k_t2 := k_t2.o hO
 replace k_t3 := k_t3.o hO
 replace ow_b := Sl.off ow_b hO f0
 replace off0 := off0.o hO
 clear hO
 refine ⟨trivial, ?_⟩
 (refine wpT_q (v := ?_) rfl (by rfl) (fun W hS => ?_) ?_; rotate_left 1; (focus (go_simp; first | done | with_reducible rfl)))
 (try simp only [Act.put, mA, mB, mC])
 (refine wpT_q (v := ?_) rfl (by rfl) (fun W hS => ?_) ?_; rotate_left 1; (focus (go_simp; first | done | with_reducible rfl)))
 (try simp only [Act.put, mA, mB, mC])
 refine wpT_e rfl ?_
 refine wpL_call (R := fun u W => Sl W u (List.take 32 (S ++ r)) ∧ Sub u (List.take 32 (S ++ r)) (sb v (S ++ r)) ∧ (0 < 32 → ∃ ad c, u = .slice (some ad) 32 c) ∧ ∃ v2, RdTo W3 p v (S ++ r) (List.drop 32 (S ++ r)) 0 v2 W) ((take_ok p v (S ++ r) W3 ⟨k_p, ow_b, ne_b_p⟩ 32 (by rw [List.length_append, hS]; omega) (by first | omega | (simp only [List.length_append, List.length_cons, List.length_nil]; omega))).mono fun _ _ h => h) (by rfl) rfl (by kernel_rfl) rfl ?_
 (try simp only [Act.put, mA, mB, mC])
 rintro u6_3 W4 ⟨hu, hsu, hso, v_b1, hto⟩
 (try simp only [Act.put, mA, mB, mC])
 have hO := hto.off
 have kk := hto.rd.1
 have hv2 := hto.rd.2.1
 have hs2 := hto.sub
 clear hto
 replace k_t2 := k_t2.p hO nq_p_t2.symm
 replace k_t3 := k_t3.p hO nq_p_t3.symm
 replace off0 := off0.p hO fb_p
 replace k_p := kk
 clear kk hO
 have ow_h6 := hu
 have ow_b1 := hv2
 clear hu hv2
 have ne_b1_p : sb v_b1 (List.drop 32 (S ++ r)) ≠ some p := sub_ne hs2 ne_b_p
 have ne_b1_t2 : sb v_b1 (List.drop 32 (S ++ r)) ≠ some p2_1 := sub_ne hs2 ne_b_t2
 have ne_b1_t3 : sb v_b1 (List.drop 32 (S ++ r)) ≠ some p3_2 := sub_ne hs2 ne_b_t3
 refine wpT_n (fun W => True) (fun W hS => trivial) trivial ?_
 refine wpT_e rfl ?_
 refine wpL_copy (l := List.take 32 (S ++ r)) ow_h6 k_t3 (by rw [hS32]; rfl) (by rw [hS32]) (by rw [hS32]; omega) (by rfl) rfl rfl rfl ?_
 (try simp only [Act.put, mA, mB, mC])
 intro W5 hO h_
 rw [hST] at h_
 replace k_t3 : Blk W5 p3_2 (bs8 S).toArray 27 := h_
 clear h_
 replace k_p := k_p.p hO nq_p_t3
 replace k_t2 := k_t2.p hO nq_t2_t3
 replace ow_b1 := Sl.off ow_b1 hO (f1 ne_b1_t3)
 replace off0 := off0.p hO fb_t3
 clear hO
 refine wpT_n (fun W => True) (fun W hS => trivial) trivial ?_
 refine wpT_z ?_
 go_upto_region 3 with fail
 refine wp_region_lit ?_
 refine L0 ?_ k_t3 (hi := by rw [bs8_sz hS]; kernel_rfl)
 refine Lp ?_ k_t2 (cells := (bs8 S).toArray) (hi := by rw [bs8_sz hS]; kernel_rfl) (hs := by rw [show32, bs8_sz hS]) (h1 := by exact all_oneCell_toArray (bs8_one _))
 intro W6 hO h_
 replace k_t2 : Blk W6 p2_1 ((bs8 S).toArray) 27 := h_
 clear h_
 replace k_p := k_p.p hO nq_p_t2
 replace ow_b1 := Sl.off ow_b1 hO (f1 ne_b1_t2)
 replace off0 := off0.p hO fb_t2
 clear hO
 refine wpL_nil ?_
 go_wp2
 have hd : List.drop 32 (S ++ r) = r := by rw [List.drop_append, List.drop_eq_nil_of_le (by omega), hS]; simp
 rw [hd] at ow_b1 hs2 ne_b1_p
 refine bodyPost_ret (res_row rfl rfl k_t2 (by kernel_rfl) (by rw [bs8_sz hS]; kernel_rfl)) rfl ⟨rfl, _, ⟨k_p, ow_b1, ne_b1_p⟩, hs2, off0⟩
end Go.Proofs.Ytlbgelbhhibikaa
