/- codec's Reader: a text that is too big or too short. Conditions: memory holds what is written. codec's Reader: a text, whatever is left. Conditions: memory holds what is written. codec's Reader: a text, whatever is left: what it is, and what is left then. Conditions: memory holds what is written. Texts: a tail, a part, a byte of one; two bytes as a number. No conditions. The document's reader, whatever is left: take, Next, End. Conditions: the texts are not too long. The document's reader: Next, of a kind. Conditions: the texts are not too long. -/
import Derived.Test.YtlbgelbhhibikaaGc
import Derived.Test.YtlbgelbhhibikaaKa
import Derived.Test.YtlbgelbhhibikaaJ13
import Derived.Test.YtlbgelbhhibikaaMh
import Derived.Test.YtlbgelbhhibikaaJ8
set_option linter.unusedSimpArgs false
set_option linter.unusedVariables false
namespace Go.Proofs.Ytlbgelbhhibikaa
set_option maxHeartbeats 1500000
set_option maxRecDepth 100000
open Go.RowKit
attribute [local irreducible] wpList

theorem rtext_gb (p m : Nat) (v : Value) (X : List UInt8) (hm2 : m ≤ 65535) (most : Int) (hmost : most < (m : Int)) (w : World) (hrd : Rdr w p v (u8 (m / 256) :: u8 m :: X) 0) (hl : (u8 (m / 256) :: u8 m :: X).length < 140737488000000) :
  Calls Try.prog 38 #[.pointer (some ⟨p, 0, none⟩), .int .i64 most] w fun e w' => e = .returned (.slice none 0 0) ∧ Rdr w' p v (u8 (m / 256) :: u8 m :: X) 5 ∧ Off [p] w w' := by
 obtain ⟨adb, cb, rfl, hcell⟩ := sl_form hrd.2.1 (by simp)
 have hor := or_two m hm2
 have hlen : (u8 (m / 256) :: u8 m :: X).length = 2 + X.length := by simp; omega
 have hm0 : (0 : Int) ≤ (m : Int) := Int.natCast_nonneg _
 have hm1 : (m : Int) ≤ 65535 := by omega
 obtain ⟨k_p, ow_b, ne_b_p⟩ := hrd
 have fb_p : Fb p w.heap.size [p] := fun _ => by simp
 have off0 : Off [p] w w := Off.refl _ _
 go_enter Try.func38, Try.ntmps38
 go_upto_region 1 with fail
 refine wp_region_lit ?_
 refine Lv ?_
 refine Lw ?_ (v := .bool false)
 refine Lw ?_ (v := .bool false)
 refine Lv ?_
 refine Lv ?_
 refine Lv ?_
 refine Lg ?_ k_p (v := .int .i64 0)
 refine Lw ?_ (v := .bool false)
 refine Lw ?_ (v := .bool false)
 refine wpL_nil ?_
 go_upto_region 3 with fail
 refine wp_region_lit ?_
 refine Lv ?_
 refine Lv ?_
 refine Lv ?_
 refine Lg ?_ k_p (v := .slice (some adb) (u8 (m / 256) :: u8 m :: X).length cb)
 refine wpL_len (l := (u8 (m / 256) :: u8 m :: X)) ow_b (by rfl) rfl rfl ?_
 (try simp only [Act.put, mA, mB, mC])
 refine Lw ?_ (v := .bool false)
 refine wpL_nil ?_
 go_upto_region 6 with fail
 refine Rx 17 ?_
 refine Xv ?_
 refine Xv ?_
 refine Xv ?_
 refine Xc ?_ (v := .slice (some adb) (u8 (m / 256) :: u8 m :: X).length cb) (blk_rd k_p)
 (refine wpX_val (v := .pointer (some (adb.add 0))) (by rfl) (fun W hW => run_ixa (j := 0) (by omega) rfl rfl rfl) ?_)
 (try simp only [Act.put, mA, mB, mC])
 refine wpX_at (v := .int .u8 ((u8 (m / 256)).toNat : Int)) (by rfl) rfl rfl (fun W hW => cell_ext (hcell 0 (u8 (m / 256)) rfl) hW) (by kernel_rfl) ?_
 (try simp only [Act.put, mA, mB, mC])
 (refine wpX_val (v := .int .i64 ((u8 (m / 256)).toNat : Int)) (by rfl) (fun W hW => by have := (u8 (m / 256)).toNat_lt; go_simp; (try simp only [IntKind.wrap_i64]); (try omega)) ?_)
 (try simp only [Act.put, mA, mB, mC])
 (refine wpX_val (v := .int .i64 (((u8 (m / 256)).toNat : Int) * 256)) (by rfl) (fun W hW => by have := (u8 (m / 256)).toNat_lt; go_simp; (try simp only [IntKind.wrap_i64]); (try omega)) ?_)
 (try simp only [Act.put, mA, mB, mC])
 refine Xv ?_
 refine Xv ?_
 refine Xv ?_
 refine Xc ?_ (v := .slice (some adb) (u8 (m / 256) :: u8 m :: X).length cb) (blk_rd k_p)
 (refine wpX_val (v := .pointer (some (adb.add 1))) (by rfl) (fun W hW => run_ixa (j := 1) (by omega) rfl rfl rfl) ?_)
 (try simp only [Act.put, mA, mB, mC])
 refine wpX_at (v := .int .u8 ((u8 m).toNat : Int)) (by rfl) rfl rfl (fun W hW => cell_ext (hcell 1 (u8 m) rfl) hW) (by kernel_rfl) ?_
 (try simp only [Act.put, mA, mB, mC])
 (refine wpX_val (v := .int .i64 ((u8 m).toNat : Int)) (by rfl) (fun W hW => by have := (u8 m).toNat_lt; go_simp; (try simp only [IntKind.wrap_i64]); (try omega)) ?_)
 (try simp only [Act.put, mA, mB, mC])
 (refine wpX_val (v := .int .i64 (m : Int)) (by rfl) (fun W hW => by have h8 := hor; go_simp) ?_)
 (try simp only [Act.put, mA, mB, mC])
 refine Xv ?_
 refine wpX_nil fun W1 hE => ?_
 have hO := off_ext hE
 replace k_p := k_p.o hO
 replace ow_b := Sl.off ow_b hO f0
 replace off0 := off0.o hO
 clear hO hE
 refine LN ?_
 go_upto_region 7 with fail
 refine wp_region_lit ?_
 refine Lv ?_
 refine Lv ?_
 refine Lw ?_ (v := .bool true)
 refine Lw ?_ (v := .bool true)
 refine wpL_nil ?_
 go_upto_region 8 with fail
 refine wp_region_lit ?_
 refine Lv ?_
 refine Lv ?_
 refine Lv ?_
 refine wpL_put1 (v := .int .i64 5) ⟨rfl, rfl⟩ (by rfl) rfl rfl rfl k_p (by show 1 < 2; decide) (by kernel_rfl) ?_
 (try simp only [Act.put, mA, mB, mC])
 intro W2 hO h_
 replace k_p : Blk W2 p #[.slice (some adb) (u8 (m / 256) :: u8 m :: X).length cb, .int .i64 5] 141 := h_
 clear h_
 replace ow_b := Sl.off ow_b hO (f1 ne_b_p)
 replace off0 := off0.p hO fb_p
 clear hO
 refine wpL_nil ?_
 go_wp2
 exact bodyPost_ret (v := .slice none 0 0) (by simp only [results, Try.results38]; go_simp) rfl ⟨rfl, ⟨k_p, ow_b, ne_b_p⟩, off0⟩
theorem rtext_gs (p m : Nat) (v : Value) (X : List UInt8) (hm2 : m ≤ 65535) (most : Int) (hmost : (m : Int) ≤ most) (hX : X.length < m) (w : World) (hrd : Rdr w p v (u8 (m / 256) :: u8 m :: X) 0) (hl : (u8 (m / 256) :: u8 m :: X).length < 140737488000000) :
  Calls Try.prog 38 #[.pointer (some ⟨p, 0, none⟩), .int .i64 most] w fun e w' => e = .returned (.slice none 0 0) ∧ Rdr w' p v (u8 (m / 256) :: u8 m :: X) 3 ∧ Off [p] w w' := by
 obtain ⟨adb, cb, rfl, hcell⟩ := sl_form hrd.2.1 (by simp)
 have hor := or_two m hm2
 have hlen : (u8 (m / 256) :: u8 m :: X).length = 2 + X.length := by simp; omega
 have hm0 : (0 : Int) ≤ (m : Int) := Int.natCast_nonneg _
 have hm1 : (m : Int) ≤ 65535 := by omega
 obtain ⟨k_p, ow_b, ne_b_p⟩ := hrd
 have fb_p : Fb p w.heap.size [p] := fun _ => by simp
 have off0 : Off [p] w w := Off.refl _ _
 go_enter Try.func38, Try.ntmps38
 go_upto_region 1 with fail
 refine wp_region_lit ?_
 refine Lv ?_
 refine Lw ?_ (v := .bool false)
 refine Lw ?_ (v := .bool false)
 refine Lv ?_
 refine Lv ?_
 refine Lv ?_
 refine Lg ?_ k_p (v := .int .i64 0)
 refine Lw ?_ (v := .bool false)
 refine Lw ?_ (v := .bool false)
 refine wpL_nil ?_
 go_upto_region 3 with fail
 refine wp_region_lit ?_
 refine Lv ?_
 refine Lv ?_
 refine Lv ?_
 refine Lg ?_ k_p (v := .slice (some adb) (u8 (m / 256) :: u8 m :: X).length cb)
 refine wpL_len (l := (u8 (m / 256) :: u8 m :: X)) ow_b (by rfl) rfl rfl ?_
 (try simp only [Act.put, mA, mB, mC])
 refine Lw ?_ (v := .bool false)
 refine wpL_nil ?_
 go_upto_region 6 with fail
 refine Rx 17 ?_
 refine Xv ?_
 refine Xv ?_
 refine Xv ?_
 refine Xc ?_ (v := .slice (some adb) (u8 (m / 256) :: u8 m :: X).length cb) (blk_rd k_p)
 (refine wpX_val (v := .pointer (some (adb.add 0))) (by rfl) (fun W hW => run_ixa (j := 0) (by omega) rfl rfl rfl) ?_)
 (try simp only [Act.put, mA, mB, mC])
 refine wpX_at (v := .int .u8 ((u8 (m / 256)).toNat : Int)) (by rfl) rfl rfl (fun W hW => cell_ext (hcell 0 (u8 (m / 256)) rfl) hW) (by kernel_rfl) ?_
 (try simp only [Act.put, mA, mB, mC])
 (refine wpX_val (v := .int .i64 ((u8 (m / 256)).toNat : Int)) (by rfl) (fun W hW => by have := (u8 (m / 256)).toNat_lt; go_simp; (try simp only [IntKind.wrap_i64]); (try omega)) ?_)
 (try simp only [Act.put, mA, mB, mC])
 (refine wpX_val (v := .int .i64 (((u8 (m / 256)).toNat : Int) * 256)) (by rfl) (fun W hW => by have := (u8 (m / 256)).toNat_lt; go_simp; (try simp only [IntKind.wrap_i64]); (try omega)) ?_)
 (try simp only [Act.put, mA, mB, mC])
 refine Xv ?_
 refine Xv ?_
 refine Xv ?_
 refine Xc ?_ (v := .slice (some adb) (u8 (m / 256) :: u8 m :: X).length cb) (blk_rd k_p)
 (refine wpX_val (v := .pointer (some (adb.add 1))) (by rfl) (fun W hW => run_ixa (j := 1) (by omega) rfl rfl rfl) ?_)
 (try simp only [Act.put, mA, mB, mC])
 refine wpX_at (v := .int .u8 ((u8 m).toNat : Int)) (by rfl) rfl rfl (fun W hW => cell_ext (hcell 1 (u8 m) rfl) hW) (by kernel_rfl) ?_
 (try simp only [Act.put, mA, mB, mC])
 (refine wpX_val (v := .int .i64 ((u8 m).toNat : Int)) (by rfl) (fun W hW => by have := (u8 m).toNat_lt; go_simp; (try simp only [IntKind.wrap_i64]); (try omega)) ?_)
 (try simp only [Act.put, mA, mB, mC])
 (refine wpX_val (v := .int .i64 (m : Int)) (by rfl) (fun W hW => by have h8 := hor; go_simp) ?_)
 (try simp only [Act.put, mA, mB, mC])
 refine Xv ?_
 refine wpX_nil fun W1 hE => ?_
 have hO := off_ext hE
 replace k_p := k_p.o hO
 replace ow_b := Sl.off ow_b hO f0
 replace off0 := off0.o hO
 clear hO hE
 refine LN ?_
 go_upto_region 7 with fail
 refine wp_region_lit ?_
 refine Lv ?_
 refine Lv ?_
 refine Lw ?_ (v := .bool false)
 refine Lw ?_ (v := .bool false)
 refine wpL_nil ?_
 go_upto_region 10 with fail
 refine wp_region_lit ?_
 refine Lv ?_
 refine Lv ?_
 refine Lv ?_
 refine Lg ?_ k_p (v := .slice (some adb) (u8 (m / 256) :: u8 m :: X).length cb)
 refine wpL_len (l := (u8 (m / 256) :: u8 m :: X)) ow_b (by rfl) rfl rfl ?_
 (try simp only [Act.put, mA, mB, mC])
 refine Lv ?_
 refine Lw ?_ (v := .int .i64 ((2 + m : Nat) : Int)) (hv := by go_simp; (try simp only [IntKind.wrap_i64]); (try omega))
 refine Lw ?_ (v := .bool true)
 refine Lw ?_ (v := .bool true)
 refine wpL_nil ?_
 go_upto_region 11 with fail
 refine wp_region_lit ?_
 refine Lv ?_
 refine Lv ?_
 refine Lv ?_
 refine wpL_put1 (v := .int .i64 3) ⟨rfl, rfl⟩ (by rfl) rfl rfl rfl k_p (by show 1 < 2; decide) (by kernel_rfl) ?_
 (try simp only [Act.put, mA, mB, mC])
 intro W2 hO h_
 replace k_p : Blk W2 p #[.slice (some adb) (u8 (m / 256) :: u8 m :: X).length cb, .int .i64 3] 141 := h_
 clear h_
 replace ow_b := Sl.off ow_b hO (f1 ne_b_p)
 replace off0 := off0.p hO fb_p
 clear hO
 refine wpL_nil ?_
 go_wp2
 exact bodyPost_ret (v := .slice none 0 0) (by simp only [results, Try.results38]; go_simp) rfl ⟨rfl, ⟨k_p, ow_b, ne_b_p⟩, off0⟩
end Go.Proofs.Ytlbgelbhhibikaa

set_option linter.unusedSimpArgs false
set_option linter.unusedVariables false
namespace Go.Proofs.Ytlbgelbhhibikaa
set_option maxHeartbeats 1500000
set_option maxRecDepth 100000
open Go.RowKit
attribute [local irreducible] wpList wpTr wpX
set_option linter.unusedSimpArgs false

theorem rtext_e (p : Nat) (v : Value) (l : List UInt8) (e0 : Int) (he : e0 ≠ 0) (most : Int) (w : World) (hrd : Rdr w p v l e0) :
  Calls Try.prog 38 #[.pointer (some ⟨p, 0, none⟩), .int .i64 most] w fun e w' => e = .returned (.slice none 0 0) ∧ ∃ v', RdTo w p v l l e0 v' w' := by
 have hS := rdr_sh hrd
 go_enter Try.func38, Try.ntmps38
 go_upto_region 1 with fail
 refine RL hS ?_
 clear hS
 refine MV ?_
 refine MW ?_ (v := .bool false)
 refine MW ?_ (v := .bool false)
 refine MV ?_
 refine MV ?_
 refine MV ?_
 refine MG 0 ?_ (v := .int .i64 e0)
 refine MW ?_ (v := .bool true) (hv := by intro W; go_simp; first | done | exact he | (simp [he]))
 refine MW ?_ (v := .bool true)
 refine MZ fun W hS => ?_
 go_wp2
 exact bodyPost_ret (v := .slice none 0 0) (by simp only [results, Try.results38]; first | (go_simp; done) | (go_simp; rfl)) rfl ⟨rfl, _, rdr_of hrd (hS.pick [0, 1]) sub_refl⟩
theorem rtext_s (p : Nat) (v : Value) (l : List UInt8) (he : l.length < 2) (most : Int) (w : World) (hrd : Rdr w p v l 0) :
  Calls Try.prog 38 #[.pointer (some ⟨p, 0, none⟩), .int .i64 most] w fun e w' => e = .returned (.slice none 0 0) ∧ ∃ v', RdTo w p v l l 3 v' w' := by
 have hS := rdr_sh hrd
 go_enter Try.func38, Try.ntmps38
 go_upto_region 1 with fail
 refine RL hS ?_
 clear hS
 refine MV ?_
 refine MW ?_ (v := .bool false)
 refine MW ?_ (v := .bool false)
 refine MV ?_
 refine MV ?_
 refine MV ?_
 refine MG 0 ?_ (v := .int .i64 0)
 refine MW ?_ (v := .bool false) (hv := by intro W; go_simp)
 refine MW ?_ (v := .bool false)
 refine MZ fun W hS => ?_
 go_upto_region 3 with fail
 refine RL hS ?_
 clear hS
 refine MV ?_
 refine MV ?_
 refine MV ?_
 refine MG 0 ?_ (v := v)
 refine MF (v := .int .i64 (l.length : Int)) (fun W hS => run_lenA (hS.sl (i := 1) rfl) rfl rfl) ?_
 refine MW ?_ (v := .bool true) (hv := by intro W; go_simp; (try omega))
 refine MZ fun W hS => ?_
 go_upto_region 4 with fail
 refine RL hS ?_
 clear hS
 refine MV ?_
 refine MV ?_
 refine MV ?_
 refine MP 0 (v := .int .i64 3) ?_
 refine MZ fun W hS => ?_
 go_wp2
 exact bodyPost_ret (v := .slice none 0 0) (by simp only [results, Try.results38]; first | (go_simp; done) | (go_simp; rfl)) rfl ⟨rfl, _, rdr_of hrd (hS.pick [0, 1]) sub_refl⟩
end Go.Proofs.Ytlbgelbhhibikaa

set_option linter.unusedSimpArgs false
set_option linter.unusedVariables false
namespace Go.Proofs.Ytlbgelbhhibikaa
open Go.RowKit
/-- how many bytes a text says that it has -/
def txN (l : List UInt8) : Nat := match l with
  | a :: b :: _ => a.toNat * 256 + b.toNat
  | _ => 0
def okT (most : Int) (s : RSt) : Prop := s.2 = 0 ∧ 2 ≤ s.1.length ∧ (txN s.1 : Int) ≤ most ∧ 2 + txN s.1 ≤ s.1.length
instance (most : Int) (s : RSt) : Decidable (okT most s) := by unfold okT; exact inferInstance
/-- what is wrong with a text that is none -/
def txE (most : Int) (s : RSt) : Int := if s.2 ≠ 0 then s.2 else if s.1.length < 2 then 3 else if most < (txN s.1 : Int) then 5 else 3
def txV (most : Int) (s : RSt) : List UInt8 := if okT most s then (s.1.drop 2).take (txN s.1) else []
def txS (most : Int) (s : RSt) : RSt := if okT most s then (s.1.drop (2 + txN s.1), 0) else (s.1, txE most s)
theorem own_none (w : World) : Own w (.slice none 0 0) [] := ⟨by simp [bs8], .inl ⟨rfl, rfl⟩⟩
theorem u8_hi (a b : UInt8) : u8 ((a.toNat * 256 + b.toNat) / 256) = a := by
  apply UInt8.toNat_inj.1; rw [u8_nat]; have := a.toNat_lt; have := b.toNat_lt; omega
theorem u8_lo (a b : UInt8) : u8 (a.toNat * 256 + b.toNat) = b := by
  apply UInt8.toNat_inj.1; rw [u8_nat]; have := a.toNat_lt; have := b.toNat_lt; omega
theorem rtext_t {p : Nat} {v : Value} {s : RSt} {w : World} (most : Int) (hrd : Rdr w p v s.1 s.2) (hlen : s.1.length < 140737488000000) :
    Calls Try.prog 38 #[.pointer (some ⟨p, 0, none⟩), .int .i64 most] w fun e w' => ∃ u, e = .returned u ∧ Own w' u (txV most s) ∧ Fr u.ownBlock w.heap.size [] ∧ ∃ v', RdTo w p v s.1 (txS most s).1 (txS most s).2 v' w' := by
  obtain ⟨l, e0⟩ := s
  have no : ∀ x : Int, ¬ okT most (l, e0) → txE most (l, e0) = x → Calls Try.prog 38 #[.pointer (some ⟨p, 0, none⟩), .int .i64 most] w (fun e w' => e = .returned (.slice none 0 0) ∧ ∃ v', RdTo w p v l l x v' w') →
      Calls Try.prog 38 #[.pointer (some ⟨p, 0, none⟩), .int .i64 most] w fun e w' => ∃ u, e = .returned u ∧ Own w' u (txV most (l, e0)) ∧ Fr u.ownBlock w.heap.size [] ∧ ∃ v', RdTo w p v l (txS most (l, e0)).1 (txS most (l, e0)).2 v' w' := by
    intro x hn hx h
    unfold txV txS
    rw [if_neg hn, if_neg hn, hx]
    exact h.mono fun e w' ⟨h1, h2⟩ => ⟨_, h1, own_none w', fun b hb => (by cases hb), h2⟩
  by_cases h0 : e0 = 0
  · subst h0
    match l, hrd, hlen, no with
    | [], hrd, _, no => exact no 3 (fun h => by have := h.2.1; simp at this) (by simp [txE]) (rtext_s p v [] (by simp) most w hrd)
    | [a], hrd, _, no => exact no 3 (fun h => by have := h.2.1; simp at this) (by simp [txE]) (rtext_s p v [a] (by simp) most w hrd)
    | a :: b :: X, hrd, hlen, no =>
      have ha := a.toNat_lt
      have hb := b.toNat_lt
      have eN : txN (a :: b :: X) = a.toNat * 256 + b.toNat := rfl
      have e1 := u8_hi a b
      have e2 := u8_lo a b
      obtain ⟨m, hm⟩ : ∃ m, m = a.toNat * 256 + b.toNat := ⟨_, rfl⟩
      rw [← hm] at e1 e2 eN
      have hm2 : m ≤ 65535 := by omega
      have hrd' : Rdr w p v (u8 (m / 256) :: u8 m :: X) 0 := by rw [e1, e2]; exact hrd
      have hlen' : (u8 (m / 256) :: u8 m :: X).length < 140737488000000 := by rw [e1, e2]; exact hlen
      by_cases hb1 : most < (m : Int)
      · refine no 5 (fun h => by have := h.2.2.1; rw [eN] at this; omega) (by unfold txE; rw [if_neg (by simp), if_neg (by simp), eN, if_pos hb1]) ?_
        refine (rtext_gb p m v X hm2 most hb1 w hrd' hlen').mono fun e w' ⟨h1, h2, h3⟩ => ⟨h1, v, ?_, sub_refl, h3⟩
        rw [e1, e2] at h2; exact h2
      · by_cases hX : X.length < m
        · refine no 3 (fun h => by have := h.2.2.2; rw [eN] at this; simp at this; omega) (by unfold txE; rw [if_neg (by simp), if_neg (by simp), eN, if_neg hb1]) ?_
          refine (rtext_gs p m v X hm2 most (by omega) hX w hrd' hlen').mono fun e w' ⟨h1, h2, h3⟩ => ⟨h1, v, ?_, sub_refl, h3⟩
          rw [e1, e2] at h2; exact h2
        · have hok : okT most (a :: b :: X, 0) := ⟨rfl, by simp, by rw [eN]; omega, by rw [eN]; simp; omega⟩
          have et : X.take m ++ X.drop m = X := List.take_append_drop m X
          have hl : (X.take m).length = m := by rw [List.length_take]; omega
          have hrd2 : Rdr w p v (u8 (m / 256) :: u8 m :: (X.take m ++ X.drop m)) 0 := by rw [et]; exact hrd'
          have hlen2 : (u8 (m / 256) :: u8 m :: (X.take m ++ X.drop m)).length < 140737488000000 := by rw [et]; exact hlen'
          unfold txV txS
          rw [if_pos hok, if_pos hok, eN]
          refine (rtext_ok p m v (X.take m) (X.drop m) hl hm2 most (by omega) w hrd2 hlen2).mono fun e w' ⟨u, h1, h2, h3, v', h4⟩ => ⟨u, h1, h2, h3, v', ?_⟩
          rw [et, e1, e2] at h4
          have e3 : (a :: b :: X).drop (2 + m) = X.drop m := by rw [Nat.add_comm]; rfl
          show RdTo w p v (a :: b :: X) ((a :: b :: X).drop (2 + m)) 0 v' w'
          rw [e3]; exact h4
  · exact no e0 (fun h => h0 h.1) (by unfold txE; rw [if_pos h0]) (rtext_e p v l e0 h0 most w hrd)
end Go.Proofs.Ytlbgelbhhibikaa

set_option linter.unusedSimpArgs false
set_option linter.unusedVariables false
namespace Go.Proofs.Ytlbgelbhhibikaa
open Go.RowKit
section
variable {w : World} {o : Oper} {a : Act} {x y z : Operand} {t : TypeId} {l : List UInt8}
end
theorem own_some {w : World} {v : Value} {l : List UInt8} (h : Own w v l) (hl : 0 < l.length) : ∃ g, v.ownBlock = some g := by
  rcases h.2 with ⟨rfl, hn⟩ | ⟨g', cap, cur, rfl, _⟩
  · first | omega | (simp at hn; omega) | (subst hn; simp at hl)
  · exact ⟨g', rfl⟩
/-- []byte(b) of thing i, that is only read from here on -/
theorem MSm (i : Nat) {ops : Array Oper} {Q : Exit → Act → World → Prop} {F : List Nat} {w : World} {H H' : List As} {r : List Oper} {o : Oper} {a a' : Act} {x : Operand} {v : Value} {l : List UInt8} (hl : 0 < l.length) (h : wpM Try.prog ops (.L Q) F w H' r a') (hi : H[i]? = some (.o v l) := by exact rfl) (hw : Region.wanted o (yielded ops a.tmps) = true := by exact rfl)
    (ho : o.op = .convert 26 26 x := by exact rfl) (hx : a.eval x = v := by exact rfl) (hH : H.set i (.s v l) = H' := by dsimp only [sB, sC]; first | done | exact rfl) (hp : a.put o.dst v = a' := by first | exact pl (by dsimp only [mB, mC]; first | done | exact rfl) | exact pn | exact rfl) : wpM Try.prog ops (.L Q) F w H (o :: r) a := by
  subst hp hH
  intro W hS
  obtain ⟨g, hg⟩ := own_some (hS.own hi) hl
  refine wpL_same (hS.own hi) hg hw ho hx fun W' hO hs => h W' ?_
  exact hS.set (x := .o v l) (y := .s v l) hi rfl hO (fun k hk _ => hk) hs (fun k hk _ => by
    have := sb_own (As.mem_toList hk); show k ∈ v.ownBlock.toList; rw [this]; simp) (.inl rfl) (fun _ _ e => by cases e)
end Go.Proofs.Ytlbgelbhhibikaa

set_option linter.unusedSimpArgs false
set_option linter.unusedVariables false
namespace Go.Proofs.Ytlbgelbhhibikaa
set_option maxHeartbeats 1500000
set_option maxRecDepth 100000
open Go.RowKit
attribute [local irreducible] wpList wpTr wpX
set_option linter.unusedSimpArgs false
end Go.Proofs.Ytlbgelbhhibikaa

set_option linter.unusedSimpArgs false
set_option linter.unusedVariables false
namespace Go.Proofs.Ytlbgelbhhibikaa
set_option maxHeartbeats 1500000
set_option maxRecDepth 100000
open Go.RowKit
attribute [local irreducible] wpList wpTr wpX
set_option linter.unusedSimpArgs false
end Go.Proofs.Ytlbgelbhhibikaa
