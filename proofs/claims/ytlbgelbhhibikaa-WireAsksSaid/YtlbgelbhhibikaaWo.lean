/- wire: what is written of a request is read again; what is read has just these bytes. No conditions. -/
import Derived.Test.YtlbgelbhhibikaaWm
set_option linter.unusedSimpArgs false
set_option linter.unusedVariables false
namespace Go.Proofs.Ytlbgelbhhibikaa.Ww
open Go.RowKit
def i64 (n : Int) : Prop := -9223372036854775808 ≤ n ∧ n < 9223372036854775808
theorem drop_app {α : Type} {a b : List α} {n : Nat} (h : a.length = n) : (a ++ b).drop n = b := by subst h; simp
theorem take_app {α : Type} {a b : List α} {n : Nat} (h : a.length = n) : (a ++ b).take n = a := by subst h; simp
theorem ok_app {a r : List UInt8} {n : Nat} (h : a.length = n) : okS n (a ++ r, 0) := ⟨rfl, by rw [List.length_append]; omega⟩
theorem tkS_app {a r : List UInt8} {n : Nat} (h : a.length = n) : tkS n (a ++ r, 0) = (r, 0) := by unfold tkS; rw [if_pos (ok_app h)]; rw [drop_app h]
theorem txN_tB {t r : List UInt8} (h : t.length ≤ 65535) : txN (tB t ++ r) = t.length := by
  show (u8 (t.length / 256)).toNat * 256 + (u8 t.length).toNat = t.length
  rw [u8_nat, u8_nat]; omega
theorem tB_drop (t r : List UInt8) : (tB t ++ r).drop 2 = t ++ r := rfl
theorem okT_tB {t r : List UInt8} {m : Int} (h : ((t.length : Nat) : Int) ≤ m) (hm : m ≤ 65535) : okT m (tB t ++ r, 0) := by
  have h1 : t.length ≤ 65535 := by omega
  refine ⟨rfl, by rw [List.length_append, tB_len]; omega, ?_, ?_⟩
  · show ((txN (tB t ++ r) : Nat) : Int) ≤ m; rw [txN_tB h1]; exact h
  · show 2 + txN (tB t ++ r) ≤ (tB t ++ r).length; rw [txN_tB h1, List.length_append, tB_len]; omega
theorem txV_tB {t r : List UInt8} {m : Int} (h : ((t.length : Nat) : Int) ≤ m) (hm : m ≤ 65535) : txV m (tB t ++ r, 0) = t := by
  unfold txV; rw [if_pos (okT_tB h hm)]
  show ((tB t ++ r).drop 2).take (txN (tB t ++ r)) = t
  rw [txN_tB (by omega), tB_drop, take_app rfl]
theorem txS_tB {t r : List UInt8} {m : Int} (h : ((t.length : Nat) : Int) ≤ m) (hm : m ≤ 65535) : txS m (tB t ++ r, 0) = (r, 0) := by
  unfold txS; rw [if_pos (okT_tB h hm)]
  show ((tB t ++ r).drop (2 + txN (tB t ++ r)), (0 : Int)) = _
  rw [txN_tB (by omega), drop_app (tB_len t)]
theorem nuV_eI {n : Int} {r : List UInt8} (h : i64 n) : nuV (eI n ++ r, 0) = n := by
  unfold nuV; rw [if_pos (ok_app (eI_len n))]
  show IntKind.wrap .i64 (beN ((eI n ++ r).take 8) : Int) = n
  rw [take_app (eI_len n)]
  unfold eI
  unfold i64 at h
  rw [beN_be8 (by omega), Int.toNat_of_nonneg (by omega), IntKind.wrap_i64]
  omega
theorem suV_lb {X : Nat} {r : List UInt8} (h : X < 2 ^ 256) : suV (lb 32 X ++ r, 0) = X := by
  unfold suV; rw [if_pos (ok_app (lb_length 32 X))]
  show le ((lb 32 X ++ r).take 32) = X
  rw [take_app (lb_length 32 X), le_lb 32 X h]
theorem byV_u8 {k : Nat} {r : List UInt8} (h : k < 256) : byV (u8 k :: r, 0) = k := by
  unfold byV; rw [if_pos ⟨rfl, by simp⟩]
  show (u8 k).toNat = k
  rw [u8_nat]; omega
theorem tkS_u8 {c : UInt8} {r : List UInt8} : tkS 1 (c :: r, 0) = (r, 0) := tkS_app (a := [c]) rfl
/-! ### back -/
theorem txB_no {m : Int} {t : List UInt8} {b : Bool} : txB m t b = false ↔ ((t.length : Int) ≤ m ∧ b = false) := by
  unfold txB
  by_cases h : m < (t.length : Int)
  · rw [if_pos h]; simp; omega
  · rw [if_neg h]; simp; omega
theorem txL_no {m : Int} {t l : List UInt8} (h : (t.length : Int) ≤ m) : txL m t l = l ++ tB t := by unfold txL; rw [if_neg (by omega)]
def wfQ (q : Rq) : Prop := q.vrf < 2 ^ 256 ∧ q.bind < 2 ^ 256 ∧ i64 q.l0 ∧ i64 q.l1 ∧ i64 q.l2 ∧ i64 q.per ∧ i64 q.fr ∧ i64 q.ti
/-- what a kind has alone -/
def cutQ (q : Rq) : Rq :=
  if q.k = 1 then { zQ q.k.toNat with id := q.id, vrf := q.vrf, bind := q.bind, l0 := q.l0, l1 := q.l1, l2 := q.l2, per := q.per }
  else if q.k = 5 then { zQ q.k.toNat with id := q.id, lab := q.lab, val := q.val }
  else if q.k = 6 then { zQ q.k.toNat with id := q.id, lab := q.lab, fr := q.fr }
  else if q.k = 7 then { zQ q.k.toNat with id := q.id, lab := q.lab }
  else if q.k = 8 then { zQ q.k.toNat with id := q.id, fr := q.fr, ti := q.ti }
  else if q.k = 10 then { zQ q.k.toNat with bun := q.bun }
  else if q.k = 12 then { zQ q.k.toNat with fr := q.fr, ti := q.ti }
  else { zQ q.k.toNat with id := q.id }
theorem rd_h {k : Nat} {r : List UInt8} (h1 : 1 ≤ k) (h2 : k ≤ 12) {q : Rq} (h : rdQ k (r, 0) = (q, ([], 0))) : askedM (u8 k :: r) = some q := by
  unfold askedM aQ
  rw [byV_u8 (by omega), tkS_u8, h, if_pos ⟨⟨h1, h2⟩, rfl⟩]
/-- what is written is read again -/
theorem ask_back {q : Rq} (hK : isK q.k) (hB : askB q = false) (hw : wfQ q) : askedM (askL q) = some (cutQ q) := by
  obtain ⟨w1, w2, w3, w4, w5, w6, w7, w8⟩ := hw
  obtain ⟨k, hk⟩ : ∃ k : Nat, q.k = (k : Int) := ⟨q.k.toNat, by have := hK.1; omega⟩
  have hk1 : 1 ≤ k ∧ k ≤ 12 := by have := hK.1; have := hK.2; omega
  have ht : q.k.toNat = k := by omega
  have e0 : ∀ l : List UInt8, l = l ++ [] := fun l => (List.append_nil l).symm
  by_cases h1 : q.k = 1
  · rw [askB_1 h1, txB_no] at hB
    rw [askL_1 h1, txL_no hB.1]
    unfold tnL cutQ
    rw [if_pos h1]
    simp only [List.append_assoc, List.cons_append, List.nil_append]
    have hk' : k = 1 := by omega
    rw [show (1 : Int).toNat = k by omega]
    refine rd_h hk1.1 hk1.2 ?_
    rw [rdQ_1 hk', txV_tB hB.1 (by decide), txS_tB hB.1 (by decide), suV_lb w1, tkS_app (lb_length _ _), suV_lb w2, tkS_app (lb_length _ _), nuV_eI w3, tkS_app (eI_len _), nuV_eI w4, tkS_app (eI_len _), nuV_eI w5, tkS_app (eI_len _), e0 (eI q.per), nuV_eI w6, tkS_app (eI_len _), ht]
  by_cases h5 : q.k = 5
  · rw [askB_5 h5, txB_no, txB_no, txB_no] at hB
    rw [askL_5 h5, txL_no hB.2.2.1, txL_no hB.2.1, txL_no hB.1]
    unfold cutQ
    rw [if_neg h1, if_pos h5]
    simp only [List.append_assoc, List.cons_append, List.nil_append]
    have hk' : k = 5 := by omega
    rw [show (5 : Int).toNat = k by omega]
    refine rd_h hk1.1 hk1.2 ?_
    rw [rdQ_5 hk', txV_tB hB.2.2.1 (by decide), txS_tB hB.2.2.1 (by decide), txV_tB hB.2.1 (by decide), txS_tB hB.2.1 (by decide), e0 (tB q.val), txV_tB hB.1 (by decide), txS_tB hB.1 (by decide), ht]
  by_cases h6 : q.k = 6
  · rw [askB_6 h6, txB_no, txB_no] at hB
    rw [askL_6 h6, txL_no hB.2.1, txL_no hB.1]
    unfold cutQ
    rw [if_neg h1, if_neg h5, if_pos h6]
    simp only [List.append_assoc, List.cons_append, List.nil_append]
    have hk' : k = 6 := by omega
    rw [show (6 : Int).toNat = k by omega]
    refine rd_h hk1.1 hk1.2 ?_
    rw [rdQ_6 hk', txV_tB hB.2.1 (by decide), txS_tB hB.2.1 (by decide), txV_tB hB.1 (by decide), txS_tB hB.1 (by decide), e0 (eI q.fr), nuV_eI w7, tkS_app (eI_len _), ht]
  by_cases h7 : q.k = 7
  · rw [askB_7 h7, txB_no, txB_no] at hB
    rw [askL_7 h7, txL_no hB.2.1, txL_no hB.1]
    unfold cutQ
    rw [if_neg h1, if_neg h5, if_neg h6, if_pos h7]
    simp only [List.append_assoc, List.cons_append, List.nil_append]
    have hk' : k = 7 := by omega
    rw [show (7 : Int).toNat = k by omega]
    refine rd_h hk1.1 hk1.2 ?_
    rw [rdQ_7 hk', txV_tB hB.2.1 (by decide), txS_tB hB.2.1 (by decide), e0 (tB q.lab), txV_tB hB.1 (by decide), txS_tB hB.1 (by decide), ht]
  by_cases h8 : q.k = 8
  · rw [askB_8 h8, txB_no] at hB
    rw [askL_8 h8, txL_no hB.1]
    unfold cutQ
    rw [if_neg h1, if_neg h5, if_neg h6, if_neg h7, if_pos h8]
    simp only [List.append_assoc, List.cons_append, List.nil_append]
    have hk' : k = 8 := by omega
    rw [show (8 : Int).toNat = k by omega]
    refine rd_h hk1.1 hk1.2 ?_
    rw [rdQ_8 hk', txV_tB hB.1 (by decide), txS_tB hB.1 (by decide), nuV_eI w7, tkS_app (eI_len _), e0 (eI q.ti), nuV_eI w8, tkS_app (eI_len _), ht]
  by_cases h10 : q.k = 10
  · rw [askB_10 h10, txB_no] at hB
    rw [askL_10 h10, txL_no hB.1]
    unfold cutQ
    rw [if_neg h1, if_neg h5, if_neg h6, if_neg h7, if_neg h8, if_pos h10]
    simp only [List.append_assoc, List.cons_append, List.nil_append]
    have hk' : k = 10 := by omega
    rw [show (10 : Int).toNat = k by omega]
    refine rd_h hk1.1 hk1.2 ?_
    rw [rdQ_10 hk', e0 (tB q.bun), txV_tB hB.1 (by decide), txS_tB hB.1 (by decide), ht]
  by_cases h12 : q.k = 12
  · rw [askL_12 h12]
    unfold cutQ
    rw [if_neg h1, if_neg h5, if_neg h6, if_neg h7, if_neg h8, if_neg h10, if_pos h12]
    simp only [List.append_assoc, List.cons_append, List.nil_append]
    have hk' : k = 12 := by omega
    rw [show (12 : Int).toNat = k by omega]
    refine rd_h hk1.1 hk1.2 ?_
    rw [rdQ_12 hk', nuV_eI w7, tkS_app (eI_len _), e0 (eI q.ti), nuV_eI w8, tkS_app (eI_len _), ht]
  rw [askB_o ⟨h1, h5, h6, h7, h8, h10, h12⟩, txB_no] at hB
  rw [askL_o ⟨h1, h5, h6, h7, h8, h10, h12⟩, txL_no hB.1]
  unfold cutQ
  rw [if_neg h1, if_neg h5, if_neg h6, if_neg h7, if_neg h8, if_neg h10, if_neg h12]
  simp only [List.append_assoc, List.cons_append, List.nil_append]
  rw [ht]
  refine rd_h hk1.1 hk1.2 ?_
  rw [rdQ_0 (by omega), e0 (tB q.id), txV_tB hB.1 (by decide), txS_tB hB.1 (by decide)]
theorem cut_keys (q : Rq) : (cutQ q).k = 1 ∨ ((cutQ q).vrf = 0 ∧ (cutQ q).bind = 0) := by
  unfold cutQ
  split
  · rename_i h; left; show ((q.k.toNat : Nat) : Int) = 1; omega
  · right
    split
    · exact ⟨rfl, rfl⟩
    split
    · exact ⟨rfl, rfl⟩
    split
    · exact ⟨rfl, rfl⟩
    split
    · exact ⟨rfl, rfl⟩
    split
    · exact ⟨rfl, rfl⟩
    split
    · exact ⟨rfl, rfl⟩
    · exact ⟨rfl, rfl⟩
end Go.Proofs.Ytlbgelbhhibikaa.Ww
