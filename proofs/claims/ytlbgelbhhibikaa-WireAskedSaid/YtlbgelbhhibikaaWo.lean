/- wire: what is written of a request is read again; what is read has just these bytes. No conditions. -/
import Derived.Test.YtlbgelbhhibikaaWm
set_option linter.unusedSimpArgs false
set_option linter.unusedVariables false
namespace Go.Proofs.Ytlbgelbhhibikaa.Ww
open Go.RowKit
def i64 (n : Int) : Prop := -9223372036854775808 ≤ n ∧ n < 9223372036854775808
/-! ### back -/
theorem noE_ne (e : Int) : noE e ≠ 0 := by unfold noE; split <;> omega
theorem tkS_inv {n : Nat} {s : RSt} (h : (tkS n s).2 = 0) : s.2 = 0 ∧ s.1 = s.1.take n ++ (tkS n s).1 ∧ okS n s := by
  unfold tkS at h ⊢
  by_cases hk : okS n s
  · rw [if_pos hk]; exact ⟨hk.1, (List.take_append_drop _ _).symm, hk⟩
  · rw [if_neg hk] at h; exact absurd h (noE_ne _)
theorem nu_inv {s : RSt} (h : (tkS 8 s).2 = 0) : s.2 = 0 ∧ s.1 = eI (nuV s) ++ (tkS 8 s).1 := by
  obtain ⟨h1, h2, h3⟩ := tkS_inv h
  refine ⟨h1, ?_⟩
  have h4 := beN8 (bs := s.1.take 8) (by rw [List.length_take]; exact Nat.min_eq_left h3.2)
  have e : eI (nuV s) = s.1.take 8 := by
    unfold nuV eI
    rw [if_pos h3, IntKind.wrap_i64]
    have e2 : (((beN (s.1.take 8) : Int) + 9223372036854775808) % 18446744073709551616 - 9223372036854775808) % 18446744073709551616 = (beN (s.1.take 8) : Int) := by have := h4.2; omega
    rw [e2, Int.toNat_natCast, h4.1]
  rw [e]; exact h2
theorem su_inv {s : RSt} (h : (tkS 32 s).2 = 0) : s.2 = 0 ∧ s.1 = lb 32 (suV s) ++ (tkS 32 s).1 := by
  obtain ⟨h1, h2, h3⟩ := tkS_inv h
  refine ⟨h1, ?_⟩
  have e : lb 32 (suV s) = s.1.take 32 := by
    unfold suV; rw [if_pos h3]
    exact lb_le' (by rw [List.length_take]; exact Nat.min_eq_left h3.2)
  rw [e]; exact h2
theorem by_inv {s : RSt} (h : (tkS 1 s).2 = 0) : s.2 = 0 ∧ s.1 = u8 (byV s) :: (tkS 1 s).1 := by
  obtain ⟨h1, h2, h3⟩ := tkS_inv h
  refine ⟨h1, ?_⟩
  have e : [u8 (byV s)] = s.1.take 1 := by
    unfold byV; rw [if_pos h3]
    match hs : s.1, h3.2 with
    | c :: r, _ =>
      show [u8 c.toNat] = [c]
      congr 1
      apply UInt8.toNat_inj.1; rw [u8_nat]; have := c.toNat_lt; omega
  exact h2.trans (by rw [← e]; rfl)
theorem txE_ne {m : Int} {s : RSt} : txE m s ≠ 0 := by
  unfold txE
  split
  · assumption
  · split
    · omega
    · split <;> omega
theorem tx_inv {m : Int} {s : RSt} (h : (txS m s).2 = 0) : s.2 = 0 ∧ s.1 = tB (txV m s) ++ (txS m s).1 ∧ ((txV m s).length : Int) ≤ m := by
  unfold txS at h ⊢
  unfold txV
  by_cases hk : okT m s
  · rw [if_pos hk, if_pos hk]
    obtain ⟨h1, h2, h3, h4⟩ := hk
    have hl : ((s.1.drop 2).take (txN s.1)).length = txN s.1 := by rw [List.length_take, List.length_drop]; omega
    refine ⟨h1, ?_, by rw [hl]; exact h3⟩
    unfold tB
    rw [hl]
    match hs : s.1, h2 with
    | a :: b :: X, _ =>
      have ha := a.toNat_lt
      have hb := b.toNat_lt
      have eN : txN (a :: b :: X) = a.toNat * 256 + b.toNat := rfl
      rw [eN, u8_hi, u8_lo]
      show a :: b :: X = a :: b :: (X.take (a.toNat * 256 + b.toNat)) ++ (a :: b :: X).drop (2 + (a.toNat * 256 + b.toNat))
      rw [show 2 + (a.toNat * 256 + b.toNat) = (a.toNat * 256 + b.toNat) + 1 + 1 by omega, List.drop_succ_cons, List.drop_succ_cons]
      simp
  · rw [if_neg hk] at h; exact absurd h txE_ne
theorem en_inv {s : RSt} (h : enV s = 0) : s.2 = 0 ∧ s.1 = [] := by
  unfold enV at h
  by_cases h1 : s.2 = 0
  · by_cases h2 : s.1 = []
    · exact ⟨h1, h2⟩
    · rw [if_pos ⟨h1, h2⟩] at h; cases h
  · rw [if_neg (fun x => h1 x.1)] at h; exact absurd h h1
theorem txB_no {m : Int} {t : List UInt8} {b : Bool} : txB m t b = false ↔ ((t.length : Int) ≤ m ∧ b = false) := by
  unfold txB
  by_cases h : m < (t.length : Int)
  · rw [if_pos h]; simp; omega
  · rw [if_neg h]; simp; omega
theorem txL_no {m : Int} {t l : List UInt8} (h : (t.length : Int) ≤ m) : txL m t l = l ++ tB t := by unfold txL; rw [if_neg (by omega)]
/-- what a kind has alone -/
def cutQ (q : Rq) : Rq :=
  if q.k = 1 then { zQ q.k.toNat with id := q.id, vrf := q.vrf, bind := q.bind, l0 := q.l0, l1 := q.l1, l2 := q.l2, per := q.per }
  else if q.k = 5 then { zQ q.k.toNat with id := q.id, lab := q.lab, val := q.val }
  else if q.k = 6 then { zQ q.k.toNat with id := q.id, lab := q.lab, fr := q.fr }
  else if q.k = 7 then { zQ q.k.toNat with id := q.id, lab := q.lab }
  else if q.k = 8 then { zQ q.k.toNat with id := q.id, fr := q.fr, ti := q.ti }
  else if q.k = 10 then { zQ q.k.toNat with bun := q.bun }
  else if q.k = 12 then { zQ q.k.toNat with fr := q.fr, ti := q.ti }
  else { zQ q.k.toNat with id := q.id }
/-- what is read has just these bytes -/
theorem asked_back {l : List UInt8} {q : Rq} (h : askedM l = some q) : isK q.k ∧ askB q = false ∧ askL q = l ∧ (q.k = 1 ∨ (q.vrf = 0 ∧ q.bind = 0)) := by
  unfold askedM at h
  split at h
  · rename_i hc
    obtain ⟨⟨h1, h2⟩, h3⟩ := hc
    obtain rfl := Option.some.inj h
    clear h
    obtain ⟨k, hk⟩ : ∃ k, byV (l, 0) = k := ⟨_, rfl⟩
    obtain ⟨s, hs⟩ : ∃ s, tkS 1 (l, 0) = s := ⟨_, rfl⟩
    have hs1 : s.2 = 0 → l = u8 k :: s.1 := fun h => by
      have := by_inv (s := (l, 0)) (by rw [hs]; exact h)
      rw [hk, hs] at this; exact this.2
    unfold aQ at h3 ⊢
    rw [hk] at h1 h2 h3 ⊢
    rw [hs] at h3 ⊢
    have hkk : ∀ q : Rq, q.k = (k : Int) → isK q.k := fun q h => by rw [h]; exact ⟨by omega, by omega⟩
    have hu : ∀ q : Rq, q.k = (k : Int) → u8 q.k.toNat = u8 k := fun q h => by rw [h, Int.toNat_natCast]
    obtain ⟨e1, e2⟩ := en_inv h3
    by_cases c1 : k = 1
    · rw [rdQ_1 c1] at e1 e2 ⊢
      obtain ⟨a1, b1⟩ := nu_inv e1
      obtain ⟨a2, b2⟩ := nu_inv a1
      obtain ⟨a3, b3⟩ := nu_inv a2
      obtain ⟨a4, b4⟩ := nu_inv a3
      obtain ⟨a5, b5⟩ := su_inv a4
      obtain ⟨a6, b6⟩ := su_inv a5
      obtain ⟨a7, b7, c7⟩ := tx_inv a6
      rw [e2, List.append_nil] at b1
      subst c1
      refine ⟨hkk _ rfl, ?_, ?_, .inl rfl⟩
      · rw [askB_1 rfl, txB_no]; exact ⟨c7, rfl⟩
      · rw [askL_1 rfl, txL_no c7, hs1 a7, b7, b6, b5, b4, b3, b2, b1]
        unfold tnL
        simp [zQ]
    by_cases c5 : k = 5
    · rw [rdQ_5 c5] at e1 e2 ⊢
      obtain ⟨a5, b5, c5'⟩ := tx_inv e1
      obtain ⟨a6, b6, c6⟩ := tx_inv a5
      obtain ⟨a7, b7, c7⟩ := tx_inv a6
      rw [e2, List.append_nil] at b5
      subst c5
      refine ⟨hkk _ rfl, ?_, ?_, .inr ⟨rfl, rfl⟩⟩
      · rw [askB_5 rfl, txB_no, txB_no, txB_no]; exact ⟨c5', c6, c7, rfl⟩
      · rw [askL_5 rfl, txL_no c7, txL_no c6, txL_no c5', hs1 a7, b7, b6, b5]
        simp
    by_cases c6 : k = 6
    · rw [rdQ_6 c6] at e1 e2 ⊢
      obtain ⟨a5, b5⟩ := nu_inv e1
      obtain ⟨a6, b6, c6'⟩ := tx_inv a5
      obtain ⟨a7, b7, c7⟩ := tx_inv a6
      rw [e2, List.append_nil] at b5
      subst c6
      refine ⟨hkk _ rfl, ?_, ?_, .inr ⟨rfl, rfl⟩⟩
      · rw [askB_6 rfl, txB_no, txB_no]; exact ⟨c6', c7, rfl⟩
      · rw [askL_6 rfl, txL_no c7, txL_no c6', hs1 a7, b7, b6, b5]
        simp
    by_cases c7 : k = 7
    · rw [rdQ_7 c7] at e1 e2 ⊢
      obtain ⟨a6, b6, c6'⟩ := tx_inv e1
      obtain ⟨a7, b7, c7'⟩ := tx_inv a6
      rw [e2, List.append_nil] at b6
      subst c7
      refine ⟨hkk _ rfl, ?_, ?_, .inr ⟨rfl, rfl⟩⟩
      · rw [askB_7 rfl, txB_no, txB_no]; exact ⟨c6', c7', rfl⟩
      · rw [askL_7 rfl, txL_no c7', txL_no c6', hs1 a7, b7, b6]
        simp
    by_cases c8 : k = 8
    · rw [rdQ_8 c8] at e1 e2 ⊢
      obtain ⟨a5, b5⟩ := nu_inv e1
      obtain ⟨a6, b6⟩ := nu_inv a5
      obtain ⟨a7, b7, c7'⟩ := tx_inv a6
      rw [e2, List.append_nil] at b5
      subst c8
      refine ⟨hkk _ rfl, ?_, ?_, .inr ⟨rfl, rfl⟩⟩
      · rw [askB_8 rfl, txB_no]; exact ⟨c7', rfl⟩
      · rw [askL_8 rfl, txL_no c7', hs1 a7, b7, b6, b5]
        simp
    by_cases c10 : k = 10
    · rw [rdQ_10 c10] at e1 e2 ⊢
      obtain ⟨a7, b7, c7'⟩ := tx_inv e1
      rw [e2, List.append_nil] at b7
      subst c10
      refine ⟨hkk _ rfl, ?_, ?_, .inr ⟨rfl, rfl⟩⟩
      · rw [askB_10 rfl, txB_no]; exact ⟨c7', rfl⟩
      · rw [askL_10 rfl, txL_no c7', hs1 a7, b7]
        simp
    by_cases c12 : k = 12
    · rw [rdQ_12 c12] at e1 e2 ⊢
      obtain ⟨a5, b5⟩ := nu_inv e1
      obtain ⟨a6, b6⟩ := nu_inv a5
      rw [e2, List.append_nil] at b5
      subst c12
      refine ⟨hkk _ rfl, ?_, ?_, .inr ⟨rfl, rfl⟩⟩
      · rw [askB_12 rfl]
      · rw [askL_12 rfl, hs1 a6, b6, b5]
        simp
    · rw [rdQ_0 ⟨c1, c5, c6, c7, c8, c10, c12⟩] at e1 e2 ⊢
      obtain ⟨a7, b7, c7'⟩ := tx_inv e1
      rw [e2, List.append_nil] at b7
      have hne : ∀ q : Rq, q.k = (k : Int) → q.k ≠ 1 ∧ q.k ≠ 5 ∧ q.k ≠ 6 ∧ q.k ≠ 7 ∧ q.k ≠ 8 ∧ q.k ≠ 10 ∧ q.k ≠ 12 := fun q h => by rw [h]; omega
      refine ⟨hkk _ rfl, ?_, ?_, .inr ⟨rfl, rfl⟩⟩
      · rw [askB_o (hne _ rfl), txB_no]; exact ⟨c7', rfl⟩
      · rw [askL_o (hne _ rfl), txL_no c7', hu _ rfl, hs1 a7, b7]
        simp
  · cases h
end Go.Proofs.Ytlbgelbhhibikaa.Ww
