/- wire, the plain law of a look's bytes: what is written is read again; what is read has just these bytes. No conditions. -/
import Derived.Test.YtlbgelbhhibikaaJ32
import Derived.Test.YtlbgelbhhibikaaJ36
set_option linter.unusedSimpArgs false
set_option linter.unusedVariables false
namespace Go.Proofs.Ytlbgelbhhibikaa.Ww
open Go.RowKit
attribute [local irreducible] be8 lb le eI tB tkS nuV suV takeM pB
theorem fl_app (b : Bool) (r : List UInt8) : flV ((if b = true then 1 else 0) :: r, 0) = b ∧ flS ((if b = true then 1 else 0) :: r, 0) = (r, 0) := by
  have e : byV ((if b = true then 1 else 0) :: r, 0) = if b = true then 1 else 0 := by rw [byV_cons]; cases b <;> rfl
  constructor
  · unfold flV; rw [e]; cases b <;> rfl
  · unfold flS; rw [e, if_neg (by cases b <;> decide)]; exact tkS_u8
theorem fl_inv {s : RSt} (h : (flS s).2 = 0) : s.2 = 0 ∧ s.1 = (if flV s = true then 1 else 0) :: (flS s).1 := by
  by_cases hb : 1 < byV s
  · unfold flS at h; rw [if_pos hb] at h; cases h
  · have e : flS s = tkS 1 s := by unfold flS; rw [if_neg hb]
    rw [e] at h ⊢
    obtain ⟨h1, h2⟩ := by_inv h
    refine ⟨h1, ?_⟩
    have e2 : u8 (byV s) = (if flV s = true then 1 else 0) := by
      unfold flV
      rcases Nat.lt_or_ge (byV s) 1 with h0 | h0
      · rw [show byV s = 0 by omega]; rfl
      · rw [show byV s = 1 by omega]; rfl
    rw [← e2]; exact h2
theorem raw_app {n X : Nat} {r : List UInt8} {bad : Bool} (hn : n ≤ 65535) (hX : X < 2 ^ (8 * n)) : le (rawV n (tB (lb n X) ++ r, 0)) = X ∧ rawB n (tB (lb n X) ++ r, 0) bad = bad ∧ txS (n : Int) (tB (lb n X) ++ r, 0) = (r, 0) := by
  have h1 : (((lb n X).length : Nat) : Int) ≤ (n : Int) := by rw [lb_length]; exact Int.le_refl _
  have h2 : (n : Int) ≤ 65535 := by omega
  have e := txV_tB (r := r) h1 h2
  refine ⟨?_, ?_, txS_tB h1 h2⟩
  · unfold rawV; rw [e, if_pos (lb_length n X), le_lb n X hX]
  · unfold rawB; rw [e, if_pos (lb_length n X)]
theorem raw_inv {n : Nat} {s : RSt} {bad : Bool} (h : (txS (n : Int) s).2 = 0) (hb : rawB n s bad = false) : s.2 = 0 ∧ s.1 = tB (lb n (le (rawV n s))) ++ (txS (n : Int) s).1 ∧ bad = false := by
  unfold rawB at hb
  by_cases hl : (txV (n : Int) s).length = n
  · rw [if_pos hl] at hb
    obtain ⟨h1, h2, _⟩ := tx_inv h
    refine ⟨h1, ?_, hb⟩
    unfold rawV
    rw [if_pos hl, lb_le' hl]
    exact h2
  · rw [if_neg hl] at hb; cases hb
theorem raw_lt (n : Nat) (s : RSt) : le (rawV n s) < 2 ^ (8 * n) := by
  have := le_lt (rawV n s)
  rwa [rawV_len] at this
theorem sumsV_bd (n : Nat) (s : RSt) : ∀ y ∈ sumsV n s, y < 2 ^ 256 := by
  induction n with
  | zero => intro y hy; cases hy
  | succ n ih =>
    intro y hy
    rcases List.mem_append.1 (show y ∈ sumsV n s ++ [suV (sumsS n s)] from hy) with h | h
    · exact ih y h
    · rw [List.mem_singleton.1 h]; exact suV_lt _
section
attribute [local semireducible] takeM
theorem take_bd (s : RSt) : (∀ y ∈ (takeM s).1.1, y < 2 ^ 256) ∧ (takeM s).1.2.2.1 < 2 ^ 256 ∧ (takeM s).1.2.2.2.1 < 2 ^ 256 ∧ ((takeM s).1.2.1 = true ∨ ((takeM s).1.2.2.1 = 0 ∧ (takeM s).1.2.2.2.1 = 0)) := by
  have hp : 0 < 2 ^ 256 := Nat.two_pow_pos _
  have z : ∀ {e : Int} {t : RSt}, (∀ y ∈ ((([], false, 0, 0, e), t) : (List Nat × Bool × Nat × Nat × Int) × RSt).1.1, y < 2 ^ 256) ∧ ((([], false, 0, 0, e), t) : (List Nat × Bool × Nat × Nat × Int) × RSt).1.2.2.1 < 2 ^ 256 ∧ ((([], false, 0, 0, e), t) : (List Nat × Bool × Nat × Nat × Int) × RSt).1.2.2.2.1 < 2 ^ 256 ∧ (((([], false, 0, 0, e), t) : (List Nat × Bool × Nat × Nat × Int) × RSt).1.2.1 = true ∨ (((([], false, 0, 0, e), t) : (List Nat × Bool × Nat × Nat × Int) × RSt).1.2.2.1 = 0 ∧ ((([], false, 0, 0, e), t) : (List Nat × Bool × Nat × Nat × Int) × RSt).1.2.2.2.1 = 0)) := fun {e} {t} => ⟨fun y hy => (by cases hy), hp, hp, .inr ⟨rfl, rfl⟩⟩
  have hE : ∀ ss th a x (t : RSt), (∀ y ∈ ss, y < 2 ^ 256) → a < 2 ^ 256 → x < 2 ^ 256 → (th = true ∨ (a = 0 ∧ x = 0)) → (∀ y ∈ (takeE ss th a x t).1.1, y < 2 ^ 256) ∧ (takeE ss th a x t).1.2.2.1 < 2 ^ 256 ∧ (takeE ss th a x t).1.2.2.2.1 < 2 ^ 256 ∧ ((takeE ss th a x t).1.2.1 = true ∨ ((takeE ss th a x t).1.2.2.1 = 0 ∧ (takeE ss th a x t).1.2.2.2.1 = 0)) := by
    intro ss th a x t h1 h2 h3 h4; unfold takeE; split
    · exact z
    · exact ⟨h1, h2, h3, h4⟩
  unfold takeM
  split
  · exact z
  · unfold takeB
    split
    · exact hE _ _ _ _ _ (sumsV_bd _ _) (suV_lt _) (suV_lt _) (.inl rfl)
    · exact hE _ _ _ _ _ (sumsV_bd _ _) hp hp (.inr ⟨rfl, rfl⟩)
theorem takeM_0 {s : RSt} (h : (takeM s).2.2 = 0) : s.2 = 0 := by
  unfold takeM at h
  split at h
  · exact (tkS_inv h).1
  · have hE : ∀ ss th a x (t : RSt), (takeE ss th a x t).2 = t := by intro ss th a x t; unfold takeE; split <;> rfl
    have hs : ∀ {n : Nat}, (sumsS n (tkS 8 s)).2 = 0 → s.2 = 0 := fun {n} h => (tkS_inv (sumsS_back n h).1).1
    unfold takeB at h
    split at h
    · rw [hE] at h
      exact hs (fl_inv (tkS_inv (tkS_inv h).1).1).1
    · rw [hE] at h
      exact hs (fl_inv h).1
end
theorem take_inv {s : RSt} {bad : Bool} (h : (takeM s).2.2 = 0) (hb : pB2 s bad = false) : s.2 = 0 ∧ s.1 = pB (takeM s).1.1 (takeM s).1.2.1 (takeM s).1.2.2.1 (takeM s).1.2.2.2.1 ++ (takeM s).2.1 ∧ (takeM s).1.1.length ≤ 256 ∧ bad = false := by
  have h0 := takeM_0 h
  unfold pB2 at hb
  by_cases he : (takeM s).1.2.2.2.2 = 0
  · rw [if_pos he] at hb
    obtain ⟨l, e⟩ := s
    obtain rfl : e = 0 := h0
    obtain ⟨hbd, ha, hx, hz⟩ := take_bd (l, 0)
    have key : ∀ c : List Nat × Bool × Nat × Nat × Int, c.2.2.2.2 = 0 → c = (c.1, c.2.1, c.2.2.1, c.2.2.2.1, 0) := by
      rintro ⟨a, b, c, d, e⟩ h
      obtain rfl : e = 0 := h
      rfl
    have hT : (takeM (l, 0)).1 = ((takeM (l, 0)).1.1, (takeM (l, 0)).1.2.1, (takeM (l, 0)).1.2.2.1, (takeM (l, 0)).1.2.2.2.1, 0) := key _ he
    obtain ⟨⟨r, hr⟩, hl⟩ := take_any hT
    have hk := congrArg (fun q => q.2.1) (take_back (th := (takeM (l, 0)).1.2.1) hl hbd ha hx r)
    have hk : (takeM (pB (takeM (l, 0)).1.1 (takeM (l, 0)).1.2.1 (takeM (l, 0)).1.2.2.1 (takeM (l, 0)).1.2.2.2.1 ++ r, 0)).2.1 = r := hk
    rw [← hr] at hk
    exact ⟨rfl, by rw [hk]; exact hr, hl, hb⟩
  · rw [if_neg he] at hb; cases hb
/-- a look whose numbers are small enough -/
def wfF (f : Fo) : Prop := (i64 f.ep ∧ i64 f.ver ∧ i64 f.rd) ∧ (f.ix < 2 ^ 256 ∧ f.vr < 2 ^ (8 * 80) ∧ f.bo < 2 ^ 256 ∧ f.op < 2 ^ 256) ∧ ((∀ y ∈ f.ss, y < 2 ^ 256) ∧ f.a < 2 ^ 256 ∧ f.x < 2 ^ 256) ∧ f.ro < 2 ^ 256 ∧ f.li < 2 ^ 256 ∧ f.ah < 2 ^ 256
/-- what comes back of a look: a leaf that isn't there is nought -/
def nzF (f : Fo) : Fo := { f with a := if f.th = true then f.a else 0, x := if f.th = true then f.x else 0 }
theorem nzF_id {f : Fo} (h : f.th = true ∨ (f.a = 0 ∧ f.x = 0)) : nzF f = f := by
  obtain ⟨ep, ix, vr, pre, ver, val, bo, op, ss, th, a, x, ro, li, ah, rd⟩ := f
  unfold nzF
  rcases h with h | ⟨h1, h2⟩
  · have h : th = true := h
    subst h; rfl
  · have h1 : a = 0 := h1
    have h2 : x = 0 := h2
    subst h1 h2
    cases th <;> rfl
theorem fo_fwd {f : Fo} {X T1 T2 T3 T4 T5 T6 T7 T8 T9 T10 T11 T12 T13 : List UInt8} (hw : wfF f) (hv : ((f.val.length : Nat) : Int) ≤ 64) (hs : f.ss.length ≤ 256) (h0 : X = eI f.ep ++ T1) (h1 : T1 = lb 32 f.ix ++ T2) (h2 : T2 = tB (lb 80 f.vr) ++ T3) (h3 : T3 = (if f.pre = true then 1 else 0) :: T4) (h4 : T4 = eI f.ver ++ T5) (h5 : T5 = tB f.val ++ T6) (h6 : T6 = lb 32 f.bo ++ T7) (h7 : T7 = lb 32 f.op ++ T8) (h8 : T8 = pB f.ss f.th f.a f.x ++ T9) (h9 : T9 = lb 32 f.ro ++ T10) (h10 : T10 = lb 32 f.li ++ T11) (h11 : T11 = lb 32 f.ah ++ T12) (h12 : T12 = eI f.rd ++ T13) (bad : Bool) :
    rFo (X, 0) = nzF f ∧ rFB (X, 0) bad = bad ∧ rFS (X, 0) = (T13, 0) := by
  obtain ⟨⟨w1, w2, w3⟩, ⟨w4, w5, w6, w7⟩, ⟨w8, w9, w10⟩, w11, w12, w13⟩ := hw
  have E1 : rF1 (X, 0) = (T1, 0) := by unfold rF1; rw [h0]; exact tkS_app (eI_len _)
  have E2 : rF2 (X, 0) = (T2, 0) := by unfold rF2; rw [E1, h1]; exact tkS_app (lb_length _ _)
  have hraw := raw_app (n := 80) (X := f.vr) (r := T3) (bad := bad) (by decide) w5
  have E3 : rF3 (X, 0) = (T3, 0) := by unfold rF3; rw [E2, h2]; exact hraw.2.2
  have E4 : rF4 (X, 0) = (T4, 0) := by unfold rF4; rw [E3, h3]; exact (fl_app _ _).2
  have E5 : rF5 (X, 0) = (T5, 0) := by unfold rF5; rw [E4, h4]; exact tkS_app (eI_len _)
  have E6 : rF6 (X, 0) = (T6, 0) := by unfold rF6; rw [E5, h5]; exact txS_tB hv (by decide)
  have E7 : rF7 (X, 0) = (T7, 0) := by unfold rF7; rw [E6, h6]; exact tkS_app (lb_length _ _)
  have E8 : rF8 (X, 0) = (T8, 0) := by unfold rF8; rw [E7, h7]; exact tkS_app (lb_length _ _)
  have ET : takeM (rF8 (X, 0)) = ((f.ss, f.th, if f.th = true then f.a else 0, if f.th = true then f.x else 0, 0), (T9, 0)) := by rw [E8, h8]; exact take_back hs w8 w9 w10 T9
  have E9 : rF9 (X, 0) = (T9, 0) := by unfold rF9; rw [ET]
  have E10 : rF10 (X, 0) = (T10, 0) := by unfold rF10; rw [E9, h9]; exact tkS_app (lb_length _ _)
  have E11 : rF11 (X, 0) = (T11, 0) := by unfold rF11; rw [E10, h10]; exact tkS_app (lb_length _ _)
  have E12 : rF12 (X, 0) = (T12, 0) := by unfold rF12; rw [E11, h11]; exact tkS_app (lb_length _ _)
  have v1 : nuV (X, 0) = f.ep := by rw [h0]; exact nuV_eI w1
  have v2 : suV (T1, 0) = f.ix := by rw [h1]; exact suV_lb w4
  have v3 : le (rawV 80 (T2, 0)) = f.vr := by rw [h2]; exact hraw.1
  have v4 : flV (T3, 0) = f.pre := by rw [h3]; exact (fl_app _ _).1
  have v5 : nuV (T4, 0) = f.ver := by rw [h4]; exact nuV_eI w2
  have v6 : txV 64 (T5, 0) = f.val := by rw [h5]; exact txV_tB hv (by decide)
  have v7 : suV (T6, 0) = f.bo := by rw [h6]; exact suV_lb w6
  have v8 : suV (T7, 0) = f.op := by rw [h7]; exact suV_lb w7
  have v9 : suV (T9, 0) = f.ro := by rw [h9]; exact suV_lb w11
  have v10 : suV (T10, 0) = f.li := by rw [h10]; exact suV_lb w12
  have v11 : suV (T11, 0) = f.ah := by rw [h11]; exact suV_lb w13
  have v12 : nuV (T12, 0) = f.rd := by rw [h12]; exact nuV_eI w3
  refine ⟨?_, ?_, ?_⟩
  · unfold rFo nzF
    rw [ET, E1, E2, E3, E4, E5, E6, E7, E9, E10, E11, E12, v1, v2, v3, v4, v5, v6, v7, v8, v9, v10, v11, v12]
  · unfold rFB pB2
    rw [ET, if_pos rfl, E2, h2]; exact hraw.2.1
  · unfold rFS; rw [E12, h12]; exact tkS_app (eI_len _)
theorem foB_no {f : Fo} (h : foB f false = false) : ((f.val.length : Nat) : Int) ≤ 64 ∧ f.ss.length ≤ 256 := by
  unfold foB smB at h
  by_cases hb : 256 < f.ss.length
  · rw [if_pos hb] at h; cases h
  · rw [if_neg hb] at h; exact ⟨(txB_no.1 h).1, by omega⟩
theorem foL_app {f : Fo} (h : foB f false = false) (r : List UInt8) : foL f [] ++ r = eI f.ep ++ (lb 32 f.ix ++ (tB (lb 80 f.vr) ++ ((if f.pre = true then 1 else 0) :: (eI f.ver ++ (tB f.val ++ (lb 32 f.bo ++ (lb 32 f.op ++ (pB f.ss f.th f.a f.x ++ (lb 32 f.ro ++ (lb 32 f.li ++ (lb 32 f.ah ++ (eI f.rd ++ r)))))))))))) := by
  obtain ⟨h1, h2⟩ := foB_no h
  unfold foL pfL foL1
  rw [if_neg (by omega), txL_no h1]
  simp only [List.append_assoc, List.nil_append, List.cons_append]
/-- what is written is read again, whatever is behind it -/
theorem fo_back {f : Fo} (h : foB f false = false) (hw : wfF f) (r : List UInt8) (bad : Bool) : rFo (foL f [] ++ r, 0) = nzF f ∧ rFB (foL f [] ++ r, 0) bad = bad ∧ rFS (foL f [] ++ r, 0) = (r, 0) := by
  obtain ⟨h1, h2⟩ := foB_no h
  exact fo_fwd hw h1 h2 (foL_app h r) rfl rfl rfl rfl rfl rfl rfl rfl rfl rfl rfl rfl bad
/-- what is read has just these bytes -/
theorem fo_inv {s : RSt} {bad : Bool} (h : (rFS s).2 = 0) (hb : rFB s bad = false) : s.2 = 0 ∧ s.1 = foL (rFo s) [] ++ (rFS s).1 ∧ foB (rFo s) false = false ∧ wfF (rFo s) ∧ nzF (rFo s) = rFo s ∧ bad = false := by
  obtain ⟨a13, b13⟩ := nu_inv (s := rF12 s) h
  obtain ⟨a12, b12⟩ := su_inv (s := rF11 s) a13
  obtain ⟨a11, b11⟩ := su_inv (s := rF10 s) a12
  obtain ⟨a10, b10⟩ := su_inv (s := rF9 s) a11
  obtain ⟨a9, b9, hs, hb2⟩ := take_inv (s := rF8 s) a10 hb
  obtain ⟨a8, b8⟩ := su_inv (s := rF7 s) a9
  obtain ⟨a7, b7⟩ := su_inv (s := rF6 s) a8
  obtain ⟨a6, b6, hv⟩ := tx_inv (m := 64) (s := rF5 s) a7
  obtain ⟨a5, b5⟩ := nu_inv (s := rF4 s) a6
  obtain ⟨a4, b4⟩ := fl_inv (s := rF3 s) a5
  obtain ⟨a3, b3, hb3⟩ := raw_inv (n := 80) (s := rF2 s) a4 hb2
  obtain ⟨a2, b2⟩ := su_inv (s := rF1 s) a3
  obtain ⟨a1, b1⟩ := nu_inv (s := s) a2
  have hB : foB (rFo s) false = false := by
    unfold foB smB
    rw [if_neg (by have h_ : (rFo s).ss.length ≤ 256 := hs; omega)]
    exact txB_no.2 ⟨hv, rfl⟩
  obtain ⟨d1, d2, d3, d4⟩ := take_bd (rF8 s)
  refine ⟨a1, ?_, hB, ⟨⟨nu_i64 _, nu_i64 _, nu_i64 _⟩, ⟨suV_lt _, raw_lt 80 _, suV_lt _, suV_lt _⟩, ⟨d1, d2, d3⟩, suV_lt _, suV_lt _, suV_lt _⟩, ?_, hb3⟩
  · rw [foL_app hB]
    rw [b1]
    show eI _ ++ (rF1 s).1 = _
    rw [b2]
    show eI _ ++ (lb 32 _ ++ (rF2 s).1) = _
    rw [b3]
    show eI _ ++ (lb 32 _ ++ (tB _ ++ (rF3 s).1)) = _
    rw [b4]
    show eI _ ++ (lb 32 _ ++ (tB _ ++ (_ :: (rF4 s).1))) = _
    rw [b5]
    show eI _ ++ (lb 32 _ ++ (tB _ ++ (_ :: (eI _ ++ (rF5 s).1)))) = _
    rw [b6]
    show eI _ ++ (lb 32 _ ++ (tB _ ++ (_ :: (eI _ ++ (tB _ ++ (rF6 s).1))))) = _
    rw [b7]
    show eI _ ++ (lb 32 _ ++ (tB _ ++ (_ :: (eI _ ++ (tB _ ++ (lb 32 _ ++ (rF7 s).1)))))) = _
    rw [b8]
    show eI _ ++ (lb 32 _ ++ (tB _ ++ (_ :: (eI _ ++ (tB _ ++ (lb 32 _ ++ (lb 32 _ ++ (rF8 s).1))))))) = _
    rw [b9]
    show eI _ ++ (lb 32 _ ++ (tB _ ++ (_ :: (eI _ ++ (tB _ ++ (lb 32 _ ++ (lb 32 _ ++ (pB _ _ _ _ ++ (rF9 s).1)))))))) = _
    rw [b10]
    show eI _ ++ (lb 32 _ ++ (tB _ ++ (_ :: (eI _ ++ (tB _ ++ (lb 32 _ ++ (lb 32 _ ++ (pB _ _ _ _ ++ (lb 32 _ ++ (rF10 s).1))))))))) = _
    rw [b11]
    show eI _ ++ (lb 32 _ ++ (tB _ ++ (_ :: (eI _ ++ (tB _ ++ (lb 32 _ ++ (lb 32 _ ++ (pB _ _ _ _ ++ (lb 32 _ ++ (lb 32 _ ++ (rF11 s).1)))))))))) = _
    rw [b12]
    show eI _ ++ (lb 32 _ ++ (tB _ ++ (_ :: (eI _ ++ (tB _ ++ (lb 32 _ ++ (lb 32 _ ++ (pB _ _ _ _ ++ (lb 32 _ ++ (lb 32 _ ++ (lb 32 _ ++ (rF12 s).1))))))))))) = _
    rw [b13]
    rfl
  · exact nzF_id d4
end Go.Proofs.Ytlbgelbhhibikaa.Ww
