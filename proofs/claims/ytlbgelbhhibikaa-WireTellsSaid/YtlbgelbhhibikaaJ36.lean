/- wire: what is written of a request is read again; what is read has just these bytes. No conditions. Proofs as bytes, the plain law: what is put is taken; what ends too soon is told; what is taken has just these bytes. No conditions. Proofs as bytes, the plain law: what is taken has just these bytes. No conditions. -/
import Derived.Test.YtlbgelbhhibikaaWm
import Derived.Test.YtlbgelbhhibikaaPrK
set_option linter.unusedSimpArgs false
set_option linter.unusedVariables false
namespace Go.Proofs.Ytlbgelbhhibikaa.Ww
open Go.RowKit
def i64 (n : Int) : Prop := -9223372036854775808 ≤ n ∧ n < 9223372036854775808
theorem drop_app {α : Type} {a b : List α} {n : Nat} (h : a.length = n) : (a ++ b).drop n = b := by subst h; simp
theorem take_app {α : Type} {a b : List α} {n : Nat} (h : a.length = n) : (a ++ b).take n = a := by subst h; simp
theorem ok_app {a r : List UInt8} {n : Nat} (h : a.length = n) : okS n (a ++ r, 0) := ⟨rfl, by rw [List.length_append]; omega⟩
theorem tkS_app {a r : List UInt8} {n : Nat} (h : a.length = n) : tkS n (a ++ r, 0) = (r, 0) := by unfold tkS; rw [if_pos (ok_app h)]; rw [drop_app h]
theorem txN_tB {t r : List UInt8} (h : t.length ≤ 65535) : txN (tB t ++ r) = t.length := by
  show (u8 (t.length / 256)).toNat * 256 + (u8 t.length).toNat = t.length
  rw [u8_nat, u8_nat]; omega
theorem tB_drop (t r : List UInt8) : (tB t ++ r).drop 2 = t ++ r := rfl
theorem okT_tB {t r : List UInt8} {m : Int} (h : ((t.length : Nat) : Int) ≤ m) (hm : m ≤ 65535) : okT m (tB t ++ r, 0) := by
  have h1 : t.length ≤ 65535 := by omega
  refine ⟨rfl, by rw [List.length_append, tB_len]; omega, ?_, ?_⟩
  · show ((txN (tB t ++ r) : Nat) : Int) ≤ m; rw [txN_tB h1]; exact h
  · show 2 + txN (tB t ++ r) ≤ (tB t ++ r).length; rw [txN_tB h1, List.length_append, tB_len]; omega
theorem txV_tB {t r : List UInt8} {m : Int} (h : ((t.length : Nat) : Int) ≤ m) (hm : m ≤ 65535) : txV m (tB t ++ r, 0) = t := by
  unfold txV; rw [if_pos (okT_tB h hm)]
  show ((tB t ++ r).drop 2).take (txN (tB t ++ r)) = t
  rw [txN_tB (by omega), tB_drop, take_app rfl]
theorem txS_tB {t r : List UInt8} {m : Int} (h : ((t.length : Nat) : Int) ≤ m) (hm : m ≤ 65535) : txS m (tB t ++ r, 0) = (r, 0) := by
  unfold txS; rw [if_pos (okT_tB h hm)]
  show ((tB t ++ r).drop (2 + txN (tB t ++ r)), (0 : Int)) = _
  rw [txN_tB (by omega), drop_app (tB_len t)]
theorem nuV_eI {n : Int} {r : List UInt8} (h : i64 n) : nuV (eI n ++ r, 0) = n := by
  unfold nuV; rw [if_pos (ok_app (eI_len n))]
  show IntKind.wrap .i64 (beN ((eI n ++ r).take 8) : Int) = n
  rw [take_app (eI_len n)]
  unfold eI
  unfold i64 at h
  rw [beN_be8 (by omega), Int.toNat_of_nonneg (by omega), IntKind.wrap_i64]
  omega
theorem suV_lb {X : Nat} {r : List UInt8} (h : X < 2 ^ 256) : suV (lb 32 X ++ r, 0) = X := by
  unfold suV; rw [if_pos (ok_app (lb_length 32 X))]
  show le ((lb 32 X ++ r).take 32) = X
  rw [take_app (lb_length 32 X), le_lb 32 X h]
theorem byV_u8 {k : Nat} {r : List UInt8} (h : k < 256) : byV (u8 k :: r, 0) = k := by
  unfold byV; rw [if_pos ⟨rfl, by simp⟩]
  show (u8 k).toNat = k
  rw [u8_nat]; omega
theorem tkS_u8 {c : UInt8} {r : List UInt8} : tkS 1 (c :: r, 0) = (r, 0) := tkS_app (a := [c]) rfl
/-! ### back -/
theorem noE_ne (e : Int) : noE e ≠ 0 := by unfold noE; split <;> omega
theorem tkS_inv {n : Nat} {s : RSt} (h : (tkS n s).2 = 0) : s.2 = 0 ∧ s.1 = s.1.take n ++ (tkS n s).1 ∧ okS n s := by
  unfold tkS at h ⊢
  by_cases hk : okS n s
  · rw [if_pos hk]; exact ⟨hk.1, (List.take_append_drop _ _).symm, hk⟩
  · rw [if_neg hk] at h; exact absurd h (noE_ne _)
theorem nu_inv {s : RSt} (h : (tkS 8 s).2 = 0) : s.2 = 0 ∧ s.1 = eI (nuV s) ++ (tkS 8 s).1 := by
  obtain ⟨h1, h2, h3⟩ := tkS_inv h
  refine ⟨h1, ?_⟩
  have h4 := beN8 (bs := s.1.take 8) (by rw [List.length_take]; exact Nat.min_eq_left h3.2)
  have e : eI (nuV s) = s.1.take 8 := by
    unfold nuV eI
    rw [if_pos h3, IntKind.wrap_i64]
    have e2 : (((beN (s.1.take 8) : Int) + 9223372036854775808) % 18446744073709551616 - 9223372036854775808) % 18446744073709551616 = (beN (s.1.take 8) : Int) := by have := h4.2; omega
    rw [e2, Int.toNat_natCast, h4.1]
  rw [e]; exact h2
theorem nu_i64 (s : RSt) : i64 (nuV s) := by
  unfold nuV i64
  split
  · rw [IntKind.wrap_i64]; omega
  · omega
theorem su_inv {s : RSt} (h : (tkS 32 s).2 = 0) : s.2 = 0 ∧ s.1 = lb 32 (suV s) ++ (tkS 32 s).1 := by
  obtain ⟨h1, h2, h3⟩ := tkS_inv h
  refine ⟨h1, ?_⟩
  have e : lb 32 (suV s) = s.1.take 32 := by
    unfold suV; rw [if_pos h3]
    exact lb_le' (by rw [List.length_take]; exact Nat.min_eq_left h3.2)
  rw [e]; exact h2
theorem by_inv {s : RSt} (h : (tkS 1 s).2 = 0) : s.2 = 0 ∧ s.1 = u8 (byV s) :: (tkS 1 s).1 := by
  obtain ⟨h1, h2, h3⟩ := tkS_inv h
  refine ⟨h1, ?_⟩
  have e : [u8 (byV s)] = s.1.take 1 := by
    unfold byV; rw [if_pos h3]
    match hs : s.1, h3.2 with
    | c :: r, _ =>
      show [u8 c.toNat] = [c]
      congr 1
      apply UInt8.toNat_inj.1; rw [u8_nat]; have := c.toNat_lt; omega
  exact h2.trans (by rw [← e]; rfl)
theorem txE_ne {m : Int} {s : RSt} : txE m s ≠ 0 := by
  unfold txE
  split
  · assumption
  · split
    · omega
    · split <;> omega
theorem tx_inv {m : Int} {s : RSt} (h : (txS m s).2 = 0) : s.2 = 0 ∧ s.1 = tB (txV m s) ++ (txS m s).1 ∧ ((txV m s).length : Int) ≤ m := by
  unfold txS at h ⊢
  unfold txV
  by_cases hk : okT m s
  · rw [if_pos hk, if_pos hk]
    obtain ⟨h1, h2, h3, h4⟩ := hk
    have hl : ((s.1.drop 2).take (txN s.1)).length = txN s.1 := by rw [List.length_take, List.length_drop]; omega
    refine ⟨h1, ?_, by rw [hl]; exact h3⟩
    unfold tB
    rw [hl]
    match hs : s.1, h2 with
    | a :: b :: X, _ =>
      have ha := a.toNat_lt
      have hb := b.toNat_lt
      have eN : txN (a :: b :: X) = a.toNat * 256 + b.toNat := rfl
      rw [eN, u8_hi, u8_lo]
      show a :: b :: X = a :: b :: (X.take (a.toNat * 256 + b.toNat)) ++ (a :: b :: X).drop (2 + (a.toNat * 256 + b.toNat))
      rw [show 2 + (a.toNat * 256 + b.toNat) = (a.toNat * 256 + b.toNat) + 1 + 1 by omega, List.drop_succ_cons, List.drop_succ_cons]
      simp
  · rw [if_neg hk] at h; exact absurd h txE_ne
theorem en_inv {s : RSt} (h : enV s = 0) : s.2 = 0 ∧ s.1 = [] := by
  unfold enV at h
  by_cases h1 : s.2 = 0
  · by_cases h2 : s.1 = []
    · exact ⟨h1, h2⟩
    · rw [if_pos ⟨h1, h2⟩] at h; cases h
  · rw [if_neg (fun x => h1 x.1)] at h; exact absurd h h1
theorem txB_no {m : Int} {t : List UInt8} {b : Bool} : txB m t b = false ↔ ((t.length : Int) ≤ m ∧ b = false) := by
  unfold txB
  by_cases h : m < (t.length : Int)
  · rw [if_pos h]; simp; omega
  · rw [if_neg h]; simp; omega
theorem txL_no {m : Int} {t l : List UInt8} (h : (t.length : Int) ≤ m) : txL m t l = l ++ tB t := by unfold txL; rw [if_neg (by omega)]
/-- what a kind has alone -/
def cutQ (q : Rq) : Rq :=
  if q.k = 1 then { zQ q.k.toNat with id := q.id, vrf := q.vrf, bind := q.bind, l0 := q.l0, l1 := q.l1, l2 := q.l2, per := q.per }
  else if q.k = 5 then { zQ q.k.toNat with id := q.id, lab := q.lab, val := q.val }
  else if q.k = 6 then { zQ q.k.toNat with id := q.id, lab := q.lab, fr := q.fr }
  else if q.k = 7 then { zQ q.k.toNat with id := q.id, lab := q.lab }
  else if q.k = 8 then { zQ q.k.toNat with id := q.id, fr := q.fr, ti := q.ti }
  else if q.k = 10 then { zQ q.k.toNat with bun := q.bun }
  else if q.k = 12 then { zQ q.k.toNat with fr := q.fr, ti := q.ti }
  else { zQ q.k.toNat with id := q.id }
end Go.Proofs.Ytlbgelbhhibikaa.Ww

set_option linter.unusedSimpArgs false
set_option linter.unusedVariables false
namespace Go.Proofs.Ytlbgelbhhibikaa
open Go.RowKit
attribute [local irreducible] be8 lb le beN
theorem tkS_ok {n : Nat} {l : List UInt8} (h : n ≤ l.length) : tkS n (l, 0) = (l.drop n, 0) := by unfold tkS; rw [if_pos ⟨rfl, h⟩]
theorem tkS_app {n : Nat} {a r : List UInt8} (h : a.length = n) : tkS n (a ++ r, 0) = (r, 0) := by
  rw [tkS_ok (by rw [List.length_append]; omega), List.drop_append, List.drop_eq_nil_of_le (by omega), h]; simp
theorem noE_ne (e : Int) : noE e ≠ 0 := by unfold noE; split <;> omega
theorem tkS_no {n : Nat} {s : RSt} (h : ¬ okS n s) : tkS n s = (s.1, noE s.2) := by unfold tkS; rw [if_neg h]
theorem tkS_0 {n : Nat} {s : RSt} (h : (tkS n s).2 = 0) : okS n s ∧ tkS n s = (s.1.drop n, 0) := by
  by_cases h1 : okS n s
  · exact ⟨h1, by unfold tkS; rw [if_pos h1]⟩
  · rw [tkS_no h1] at h; exact absurd h (noE_ne _)
theorem byV_cons (c : UInt8) (r : List UInt8) : byV (c :: r, 0) = c.toNat := by unfold byV; rw [if_pos ⟨rfl, by simp⟩]; rfl
theorem sumsS_ok : ∀ (n : Nat) (l : List UInt8), 32 * n ≤ l.length → sumsS n (l, 0) = (l.drop (32 * n), 0)
  | 0, l, _ => rfl
  | n + 1, l, h => by
    show tkS 32 (sumsS n (l, 0)) = _
    rw [sumsS_ok n l (by omega), tkS_ok (by rw [List.length_drop]; omega), List.drop_drop]; rfl
theorem suV_app {N : Nat} {r : List UInt8} (h : N < 2 ^ 256) : suV (lb 32 N ++ r, 0) = N := by
  unfold suV
  rw [if_pos ⟨rfl, by show 32 ≤ (lb 32 N ++ r).length; rw [List.length_append, lb_length]; omega⟩]
  show le ((lb 32 N ++ r).take 32) = N
  rw [List.take_append_of_le_length (by rw [lb_length]; exact Nat.le_refl _), List.take_of_length_le (by rw [lb_length]; exact Nat.le_refl _), le_lb 32 N h]
theorem nuV_app {n : Nat} {r : List UInt8} (h : n < 9223372036854775808) : nuV (be8 n ++ r, 0) = n := by
  have hl : (be8 n).length = 8 := be8_len n
  unfold nuV
  rw [if_pos ⟨rfl, by show 8 ≤ (be8 n ++ r).length; rw [List.length_append, hl]; omega⟩]
  show IntKind.wrap .i64 (beN ((be8 n ++ r).take 8) : Int) = n
  rw [List.take_append_of_le_length (by rw [hl]; exact Nat.le_refl _), List.take_of_length_le (by rw [hl]; exact Nat.le_refl _), beN_be8 (by omega), IntKind.wrap_i64]
  omega
theorem flat_drop {ss : List Nat} {i y : Nat} (h : ss[i]? = some y) : ((ss.map (lb 32)).drop i).flatten = lb 32 y ++ ((ss.map (lb 32)).drop (i + 1)).flatten := by
  obtain ⟨h1, h2⟩ := List.getElem?_eq_some_iff.1 h
  rw [List.drop_eq_getElem_cons (by simpa using h1), List.flatten_cons, List.getElem_map, h2]
theorem sums_app {ss : List Nat} {r : List UInt8} (hb : ∀ y ∈ ss, y < 2 ^ 256) : ∀ i, i ≤ ss.length → sumsV i ((ss.map (lb 32)).flatten ++ r, 0) = ss.take i ∧ sumsS i ((ss.map (lb 32)).flatten ++ r, 0) = (((ss.map (lb 32)).drop i).flatten ++ r, 0)
  | 0, _ => ⟨rfl, rfl⟩
  | i + 1, h => by
    obtain ⟨h1, h2⟩ := sums_app (r := r) hb i (by omega)
    obtain ⟨y, hy⟩ : ∃ y, ss[i]? = some y := ⟨_, List.getElem?_eq_getElem (by omega)⟩
    have hy2 := hb y (List.mem_of_getElem? hy)
    refine ⟨?_, ?_⟩
    · show sumsV i _ ++ [suV (sumsS i _)] = _
      rw [h1, h2, flat_drop hy, List.append_assoc, suV_app hy2, List.take_add_one, hy]; rfl
    · show tkS 32 (sumsS i _) = _
      rw [h2, flat_drop hy, List.append_assoc, tkS_app (lb_length _ _)]
theorem sums_all {ss : List Nat} {r : List UInt8} (hb : ∀ y ∈ ss, y < 2 ^ 256) : sumsV ss.length ((ss.map (lb 32)).flatten ++ r, 0) = ss ∧ sumsS ss.length ((ss.map (lb 32)).flatten ++ r, 0) = (r, 0) := by
  obtain ⟨h1, h2⟩ := sums_app (r := r) hb ss.length (Nat.le_refl _)
  rw [h1, h2, List.take_of_length_le (Nat.le_refl _), List.drop_eq_nil_of_le (by simp)]
  exact ⟨rfl, rfl⟩
theorem en_r (r : List UInt8) : ¬ (enV (r, 0) ≠ 0 ∧ enV (r, 0) ≠ 4) := by
  unfold enV
  by_cases h : r = []
  · rw [if_neg (fun h1 => h1.2 h)]; exact fun h1 => h1.1 rfl
  · rw [if_pos ⟨rfl, h⟩]; exact fun h1 => h1.2 rfl
/-- what is put is taken -/
theorem take_back {ss : List Nat} {th : Bool} {a x : Nat} (hn : ss.length ≤ 256) (hb : ∀ y ∈ ss, y < 2 ^ 256) (ha : a < 2 ^ 256) (hx : x < 2 ^ 256) (r : List UInt8) :
    takeM (pB ss th a x ++ r, 0) = ((ss, th, if th = true then a else 0, if th = true then x else 0, 0), (r, 0)) := by
  unfold takeM pB
  rw [List.append_assoc, List.append_assoc, nuV_app (by omega), if_neg (by omega), Int.toNat_natCast, tkS_app (be8_len _)]
  obtain ⟨h1, h2⟩ := sums_all (r := (if th = true then [1] ++ lb 32 a ++ lb 32 x else [0]) ++ r) hb
  rw [h1, h2]
  unfold takeB
  cases th
  · show (if flV (0 :: r, 0) = true then _ else takeE ss false 0 0 (flS (0 :: r, 0))) = _
    rw [if_neg (by unfold flV; rw [byV_cons]; decide)]
    have e : flS (0 :: r, 0) = (r, 0) := by unfold flS; rw [byV_cons, if_neg (by decide)]; exact tkS_app (a := [0]) rfl
    rw [e]; unfold takeE; rw [if_neg (en_r r)]; rfl
  · have e1 : (if true = true then [1] ++ lb 32 a ++ lb 32 x else [0]) ++ r = 1 :: (lb 32 a ++ (lb 32 x ++ r)) := by simp
    rw [e1, if_pos (by unfold flV; rw [byV_cons]; decide)]
    have e : flS (1 :: (lb 32 a ++ (lb 32 x ++ r)), 0) = (lb 32 a ++ (lb 32 x ++ r), 0) := by unfold flS; rw [byV_cons, if_neg (by decide)]; exact tkS_app (a := [1]) rfl
    rw [e, suV_app ha, tkS_app (lb_length _ _), suV_app hx, tkS_app (lb_length _ _)]
    unfold takeE; rw [if_neg (en_r r)]; rfl
end Go.Proofs.Ytlbgelbhhibikaa

set_option linter.unusedSimpArgs false
set_option linter.unusedVariables false
namespace Go.Proofs.Ytlbgelbhhibikaa
open Go.RowKit
attribute [local irreducible] be8 lb le beN
/-- a reader's errors -/
def gE (s : RSt) : Prop := s.2 = 0 ∨ s.2 = 2 ∨ s.2 = 3
theorem gE_tk {n : Nat} {s : RSt} (h : gE s) : gE (tkS n s) := by
  by_cases h1 : okS n s
  · exact .inl (by unfold tkS; rw [if_pos h1])
  · rw [tkS_no h1]
    show noE s.2 = 0 ∨ noE s.2 = 2 ∨ noE s.2 = 3
    rcases h with h | h | h <;> rw [h] <;> simp [noE]
theorem gE_fl {s : RSt} (h : gE s) : gE (flS s) := by
  unfold flS
  split
  · exact .inr (.inl rfl)
  · exact gE_tk h
theorem gE_sums (n : Nat) {s : RSt} (h : gE s) : gE (sumsS n s) := by
  induction n with
  | zero => exact h
  | succ n ih => exact gE_tk ih
theorem en_0 {s : RSt} (h : gE s) (he : ¬ (enV s ≠ 0 ∧ enV s ≠ 4)) : s.2 = 0 := by
  unfold enV at he
  split at he
  · rename_i h1; exact h1.1
  · rcases h with h | h | h
    · exact h
    · exact absurd ⟨by omega, by omega⟩ he
    · exact absurd ⟨by omega, by omega⟩ he
theorem sumsS_back : ∀ (n : Nat) {s : RSt}, (sumsS n s).2 = 0 → s.2 = 0 ∧ 32 * n ≤ s.1.length
  | 0, s, h => ⟨h, Nat.zero_le _⟩
  | n + 1, s, h => by
    obtain ⟨h1, h2⟩ := tkS_0 (s := sumsS n s) h
    obtain ⟨h3, h4⟩ := sumsS_back n h1.1
    have e : s = (s.1, 0) := by rw [← h3]
    refine ⟨h3, ?_⟩
    have h5 := h1.2
    rw [e, sumsS_ok n s.1 h4] at h5
    have h6 : 32 ≤ (s.1.drop (32 * n)).length := h5
    rw [List.length_drop] at h6
    omega
theorem suV_bytes {l : List UInt8} (h : 32 ≤ l.length) : lb 32 (suV (l, 0)) = l.take 32 := by
  unfold suV
  rw [if_pos ⟨rfl, h⟩]
  exact lb_le' (by rw [List.length_take]; exact Nat.min_eq_left h)
theorem sumsV_bytes : ∀ (n : Nat) {l : List UInt8}, 32 * n ≤ l.length → ((sumsV n (l, 0)).map (lb 32)).flatten = l.take (32 * n)
  | 0, l, _ => rfl
  | n + 1, l, h => by
    show ((sumsV n (l, 0) ++ [suV (sumsS n (l, 0))]).map (lb 32)).flatten = _
    rw [List.map_append, List.flatten_append, sumsV_bytes n (by omega), sumsS_ok n l (by omega)]
    show l.take (32 * n) ++ [lb 32 (suV (l.drop (32 * n), 0))].flatten = _
    rw [suV_bytes (by rw [List.length_drop]; omega), show 32 * (n + 1) = 32 * n + 32 by omega, List.take_add]; simp
theorem nu_bytes {l : List UInt8} {n : Nat} (h8 : 8 ≤ l.length) (hn : nuV (l, 0) = n) (h2 : n ≤ 256) : be8 n = l.take 8 := by
  obtain ⟨h3, h4⟩ := beN8 (bs := l.take 8) (by rw [List.length_take]; exact Nat.min_eq_left h8)
  unfold nuV at hn
  rw [if_pos ⟨rfl, h8⟩, IntKind.wrap_i64] at hn
  have hn : ((beN (l.take 8) : Int) + 9223372036854775808) % 18446744073709551616 - 9223372036854775808 = n := hn
  have e : beN (l.take 8) = n := by omega
  rw [← e]; exact h3
theorem u8_of {c : UInt8} {n : Nat} (h : c.toNat = n) : c = UInt8.ofNat n := by
  apply UInt8.toNat_inj.1; rw [UInt8.toNat_ofNat', h, Nat.mod_eq_of_lt]; have := c.toNat_lt; omega
/-- what is taken has just these bytes -/
theorem take_any {l : List UInt8} {ss : List Nat} {th : Bool} {a x : Nat} (h : (takeM (l, 0)).1 = (ss, th, a, x, 0)) : (∃ r, l = pB ss th a x ++ r) ∧ ss.length ≤ 256 := by
  unfold takeM at h
  have hg8 : gE (tkS 8 (l, 0)) := gE_tk (.inl rfl)
  split at h
  · have h := congrArg (fun q => q.2.2.2.2) h; exact absurd (show (5 : Int) = 0 from h) (by decide)
  · rename_i hN
    obtain ⟨n, hn, hn2⟩ : ∃ n : Nat, nuV (l, 0) = n ∧ n ≤ 256 := ⟨(nuV (l, 0)).toNat, by omega, by omega⟩
    rw [hn, Int.toNat_natCast] at h
    -- the state behind the sums
    have hgs := gE_sums n hg8
    have key : ∀ {ss' : List Nat} {th' : Bool} {a' x' : Nat} {s : RSt}, gE s → (takeE ss' th' a' x' s).1 = (ss, th, a, x, 0) → s.2 = 0 ∧ (ss', th', a', x') = (ss, th, a, x) := by
      intro ss' th' a' x' s hs he
      unfold takeE at he
      split at he
      · rename_i h1
        have h := congrArg (fun q => q.2.2.2.2) he
        exact absurd h h1.1
      · rename_i h1
        refine ⟨en_0 hs h1, ?_⟩
        have he : (ss', th', a', x', (0 : Int)) = (ss, th, a, x, 0) := he
        injection he with e1 he; injection he with e2 he; injection he with e3 he; injection he with e4 he
        rw [e1, e2, e3, e4]
    -- behind the number and the sums all is there
    have fin : (sumsS n (tkS 8 (l, 0))).2 = 0 → ∃ t, l = be8 n ++ ((sumsV n (tkS 8 (l, 0))).map (lb 32)).flatten ++ t ∧ sumsS n (tkS 8 (l, 0)) = (t, 0) := by
      intro h0
      obtain ⟨h1, h2⟩ := sumsS_back n h0
      obtain ⟨h3, h4⟩ := tkS_0 h1
      have h8 : 8 ≤ l.length := h3.2
      have e4 : tkS 8 (l, 0) = (l.drop 8, 0) := h4
      rw [e4] at h2 ⊢
      have h2 : 32 * n ≤ (l.drop 8).length := h2
      refine ⟨(l.drop 8).drop (32 * n), ?_, sumsS_ok n _ h2⟩
      rw [nu_bytes h8 hn hn2, sumsV_bytes n h2, List.append_assoc, List.take_append_drop, List.take_append_drop]
    unfold takeB at h
    split at h
    · rename_i hf
      obtain ⟨h0, he⟩ := key (gE_tk (gE_tk (gE_fl hgs))) h
      injection he with e1 he; injection he with e2 he; injection he with e3 e4
      obtain ⟨h1, h2⟩ := tkS_0 h0
      obtain ⟨h3, h4⟩ := tkS_0 h1.1
      have hb1 : byV (sumsS n (tkS 8 (l, 0))) = 1 := by unfold flV at hf; exact of_decide_eq_true hf
      have efl : flS (sumsS n (tkS 8 (l, 0))) = tkS 1 (sumsS n (tkS 8 (l, 0))) := by unfold flS; rw [hb1, if_neg (by decide)]
      have h5 := h3.1
      rw [efl] at h5
      obtain ⟨h6, h7⟩ := tkS_0 h5
      obtain ⟨t, ht, hst⟩ := fin h6.1
      rw [hst] at h6 h7 hb1 efl
      have ht1 : 1 ≤ t.length := h6.2
      match t, ht1 with
      | c :: u, _ =>
        rw [byV_cons] at hb1
        have hc := u8_of hb1
        have efl : flS (sumsS n (tkS 8 (l, 0))) = (u, 0) := by rw [hst, efl, h7]; rfl
        rw [efl] at h1 h3 h4 e3 e4
        have hu : 32 ≤ u.length := h3.2
        have h4 : tkS 32 (u, 0) = (u.drop 32, 0) := h4
        rw [h4] at h1 e4
        have hu2 : 32 ≤ (u.drop 32).length := h1.2
        refine ⟨⟨(u.drop 32).drop 32, ?_⟩, by rw [← e1, sumsV_len]; exact hn2⟩
        rw [e1] at ht
        unfold pB
        rw [show ss.length = n by rw [← e1, sumsV_len], ← e2, if_pos rfl, ← e3, ← e4, suV_bytes hu, suV_bytes hu2, ht, hc]
        show be8 n ++ _ ++ (1 :: u) = _
        have hdd : 1 :: u = [1] ++ u.take 32 ++ (u.drop 32).take 32 ++ (u.drop 32).drop 32 := by
          rw [List.append_assoc, List.append_assoc, List.take_append_drop, List.take_append_drop]; rfl
        rw [hdd]; simp only [List.append_assoc]
    · rename_i hf
      obtain ⟨h0, he⟩ := key (gE_fl hgs) h
      injection he with e1 he; injection he with e2 he; injection he with e3 e4
      have hb2 : ¬ 1 < byV (sumsS n (tkS 8 (l, 0))) := fun h1 => by
        unfold flS at h0; rw [if_pos h1] at h0; cases h0
      have efl : flS (sumsS n (tkS 8 (l, 0))) = tkS 1 (sumsS n (tkS 8 (l, 0))) := by unfold flS; rw [if_neg hb2]
      rw [efl] at h0
      obtain ⟨h6, h7⟩ := tkS_0 h0
      obtain ⟨t, ht, hst⟩ := fin h6.1
      rw [hst] at h6 hb2
      have ht1 : 1 ≤ t.length := h6.2
      match t, ht1 with
      | c :: u, _ =>
        have hb0 : c.toNat = 0 := by
          have hf1 : flV (sumsS n (tkS 8 (l, 0))) ≠ true := hf
          rw [hst] at hf1
          unfold flV at hf1
          rw [byV_cons] at hf1 hb2
          have : ¬ c.toNat = 1 := fun h => hf1 (decide_eq_true h)
          omega
        have hc := u8_of hb0
        refine ⟨⟨u, ?_⟩, by rw [← e1, sumsV_len]; exact hn2⟩
        rw [e1] at ht
        unfold pB
        rw [show ss.length = n by rw [← e1, sumsV_len], ← e2, if_neg (by decide), ht, hc]
        simp
end Go.Proofs.Ytlbgelbhhibikaa
