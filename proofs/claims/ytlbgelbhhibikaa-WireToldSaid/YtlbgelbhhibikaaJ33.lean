/- wire, the plain law of a look's bytes: what is written is read again; what is read has just these bytes. No conditions. The plain law of an answer's bytes: what is read of them has just these bytes, and of an answer's bytes one is read. No conditions. -/
import Derived.Test.YtlbgelbhhibikaaJ28
import Derived.Test.YtlbgelbhhibikaaJ32
import Derived.Test.YtlbgelbhhibikaaYj
set_option linter.unusedSimpArgs false
set_option linter.unusedVariables false
namespace Go.Proofs.Ytlbgelbhhibikaa.Ww
open Go.RowKit
attribute [local irreducible] be8 lb le eI tB tkS nuV suV takeM pB
theorem fl_inv {s : RSt} (h : (flS s).2 = 0) : s.2 = 0 ∧ s.1 = (if flV s = true then 1 else 0) :: (flS s).1 := by
  by_cases hb : 1 < byV s
  · unfold flS at h; rw [if_pos hb] at h; cases h
  · have e : flS s = tkS 1 s := by unfold flS; rw [if_neg hb]
    rw [e] at h ⊢
    obtain ⟨h1, h2⟩ := by_inv h
    refine ⟨h1, ?_⟩
    have e2 : u8 (byV s) = (if flV s = true then 1 else 0) := by
      unfold flV
      rcases Nat.lt_or_ge (byV s) 1 with h0 | h0
      · rw [show byV s = 0 by omega]; rfl
      · rw [show byV s = 1 by omega]; rfl
    rw [← e2]; exact h2
theorem raw_inv {n : Nat} {s : RSt} {bad : Bool} (h : (txS (n : Int) s).2 = 0) (hb : rawB n s bad = false) : s.2 = 0 ∧ s.1 = tB (lb n (le (rawV n s))) ++ (txS (n : Int) s).1 ∧ bad = false := by
  unfold rawB at hb
  by_cases hl : (txV (n : Int) s).length = n
  · rw [if_pos hl] at hb
    obtain ⟨h1, h2, _⟩ := tx_inv h
    refine ⟨h1, ?_, hb⟩
    unfold rawV
    rw [if_pos hl, lb_le' hl]
    exact h2
  · rw [if_neg hl] at hb; cases hb
theorem raw_lt (n : Nat) (s : RSt) : le (rawV n s) < 2 ^ (8 * n) := by
  have := le_lt (rawV n s)
  rwa [rawV_len] at this
theorem sumsV_bd (n : Nat) (s : RSt) : ∀ y ∈ sumsV n s, y < 2 ^ 256 := by
  induction n with
  | zero => intro y hy; cases hy
  | succ n ih =>
    intro y hy
    rcases List.mem_append.1 (show y ∈ sumsV n s ++ [suV (sumsS n s)] from hy) with h | h
    · exact ih y h
    · rw [List.mem_singleton.1 h]; exact suV_lt _
section
attribute [local semireducible] takeM
theorem take_bd (s : RSt) : (∀ y ∈ (takeM s).1.1, y < 2 ^ 256) ∧ (takeM s).1.2.2.1 < 2 ^ 256 ∧ (takeM s).1.2.2.2.1 < 2 ^ 256 ∧ ((takeM s).1.2.1 = true ∨ ((takeM s).1.2.2.1 = 0 ∧ (takeM s).1.2.2.2.1 = 0)) := by
  have hp : 0 < 2 ^ 256 := Nat.two_pow_pos _
  have z : ∀ {e : Int} {t : RSt}, (∀ y ∈ ((([], false, 0, 0, e), t) : (List Nat × Bool × Nat × Nat × Int) × RSt).1.1, y < 2 ^ 256) ∧ ((([], false, 0, 0, e), t) : (List Nat × Bool × Nat × Nat × Int) × RSt).1.2.2.1 < 2 ^ 256 ∧ ((([], false, 0, 0, e), t) : (List Nat × Bool × Nat × Nat × Int) × RSt).1.2.2.2.1 < 2 ^ 256 ∧ (((([], false, 0, 0, e), t) : (List Nat × Bool × Nat × Nat × Int) × RSt).1.2.1 = true ∨ (((([], false, 0, 0, e), t) : (List Nat × Bool × Nat × Nat × Int) × RSt).1.2.2.1 = 0 ∧ ((([], false, 0, 0, e), t) : (List Nat × Bool × Nat × Nat × Int) × RSt).1.2.2.2.1 = 0)) := fun {e} {t} => ⟨fun y hy => (by cases hy), hp, hp, .inr ⟨rfl, rfl⟩⟩
  have hE : ∀ ss th a x (t : RSt), (∀ y ∈ ss, y < 2 ^ 256) → a < 2 ^ 256 → x < 2 ^ 256 → (th = true ∨ (a = 0 ∧ x = 0)) → (∀ y ∈ (takeE ss th a x t).1.1, y < 2 ^ 256) ∧ (takeE ss th a x t).1.2.2.1 < 2 ^ 256 ∧ (takeE ss th a x t).1.2.2.2.1 < 2 ^ 256 ∧ ((takeE ss th a x t).1.2.1 = true ∨ ((takeE ss th a x t).1.2.2.1 = 0 ∧ (takeE ss th a x t).1.2.2.2.1 = 0)) := by
    intro ss th a x t h1 h2 h3 h4; unfold takeE; split
    · exact z
    · exact ⟨h1, h2, h3, h4⟩
  unfold takeM
  split
  · exact z
  · unfold takeB
    split
    · exact hE _ _ _ _ _ (sumsV_bd _ _) (suV_lt _) (suV_lt _) (.inl rfl)
    · exact hE _ _ _ _ _ (sumsV_bd _ _) hp hp (.inr ⟨rfl, rfl⟩)
theorem takeM_0 {s : RSt} (h : (takeM s).2.2 = 0) : s.2 = 0 := by
  unfold takeM at h
  split at h
  · exact (tkS_inv h).1
  · have hE : ∀ ss th a x (t : RSt), (takeE ss th a x t).2 = t := by intro ss th a x t; unfold takeE; split <;> rfl
    have hs : ∀ {n : Nat}, (sumsS n (tkS 8 s)).2 = 0 → s.2 = 0 := fun {n} h => (tkS_inv (sumsS_back n h).1).1
    unfold takeB at h
    split at h
    · rw [hE] at h
      exact hs (fl_inv (tkS_inv (tkS_inv h).1).1).1
    · rw [hE] at h
      exact hs (fl_inv h).1
end
theorem take_inv {s : RSt} {bad : Bool} (h : (takeM s).2.2 = 0) (hb : pB2 s bad = false) : s.2 = 0 ∧ s.1 = pB (takeM s).1.1 (takeM s).1.2.1 (takeM s).1.2.2.1 (takeM s).1.2.2.2.1 ++ (takeM s).2.1 ∧ (takeM s).1.1.length ≤ 256 ∧ bad = false := by
  have h0 := takeM_0 h
  unfold pB2 at hb
  by_cases he : (takeM s).1.2.2.2.2 = 0
  · rw [if_pos he] at hb
    obtain ⟨l, e⟩ := s
    obtain rfl : e = 0 := h0
    obtain ⟨hbd, ha, hx, hz⟩ := take_bd (l, 0)
    have key : ∀ c : List Nat × Bool × Nat × Nat × Int, c.2.2.2.2 = 0 → c = (c.1, c.2.1, c.2.2.1, c.2.2.2.1, 0) := by
      rintro ⟨a, b, c, d, e⟩ h
      obtain rfl : e = 0 := h
      rfl
    have hT : (takeM (l, 0)).1 = ((takeM (l, 0)).1.1, (takeM (l, 0)).1.2.1, (takeM (l, 0)).1.2.2.1, (takeM (l, 0)).1.2.2.2.1, 0) := key _ he
    obtain ⟨⟨r, hr⟩, hl⟩ := take_any hT
    have hk := congrArg (fun q => q.2.1) (take_back (th := (takeM (l, 0)).1.2.1) hl hbd ha hx r)
    have hk : (takeM (pB (takeM (l, 0)).1.1 (takeM (l, 0)).1.2.1 (takeM (l, 0)).1.2.2.1 (takeM (l, 0)).1.2.2.2.1 ++ r, 0)).2.1 = r := hk
    rw [← hr] at hk
    exact ⟨rfl, by rw [hk]; exact hr, hl, hb⟩
  · rw [if_neg he] at hb; cases hb
/-- a look whose numbers are small enough -/
def wfF (f : Fo) : Prop := (i64 f.ep ∧ i64 f.ver ∧ i64 f.rd) ∧ (f.ix < 2 ^ 256 ∧ f.vr < 2 ^ (8 * 80) ∧ f.bo < 2 ^ 256 ∧ f.op < 2 ^ 256) ∧ ((∀ y ∈ f.ss, y < 2 ^ 256) ∧ f.a < 2 ^ 256 ∧ f.x < 2 ^ 256) ∧ f.ro < 2 ^ 256 ∧ f.li < 2 ^ 256 ∧ f.ah < 2 ^ 256
/-- what comes back of a look: a leaf that isn't there is nought -/
def nzF (f : Fo) : Fo := { f with a := if f.th = true then f.a else 0, x := if f.th = true then f.x else 0 }
theorem nzF_id {f : Fo} (h : f.th = true ∨ (f.a = 0 ∧ f.x = 0)) : nzF f = f := by
  obtain ⟨ep, ix, vr, pre, ver, val, bo, op, ss, th, a, x, ro, li, ah, rd⟩ := f
  unfold nzF
  rcases h with h | ⟨h1, h2⟩
  · have h : th = true := h
    subst h; rfl
  · have h1 : a = 0 := h1
    have h2 : x = 0 := h2
    subst h1 h2
    cases th <;> rfl
theorem foB_no {f : Fo} (h : foB f false = false) : ((f.val.length : Nat) : Int) ≤ 64 ∧ f.ss.length ≤ 256 := by
  unfold foB smB at h
  by_cases hb : 256 < f.ss.length
  · rw [if_pos hb] at h; cases h
  · rw [if_neg hb] at h; exact ⟨(txB_no.1 h).1, by omega⟩
theorem foL_app {f : Fo} (h : foB f false = false) (r : List UInt8) : foL f [] ++ r = eI f.ep ++ (lb 32 f.ix ++ (tB (lb 80 f.vr) ++ ((if f.pre = true then 1 else 0) :: (eI f.ver ++ (tB f.val ++ (lb 32 f.bo ++ (lb 32 f.op ++ (pB f.ss f.th f.a f.x ++ (lb 32 f.ro ++ (lb 32 f.li ++ (lb 32 f.ah ++ (eI f.rd ++ r)))))))))))) := by
  obtain ⟨h1, h2⟩ := foB_no h
  unfold foL pfL foL1
  rw [if_neg (by omega), txL_no h1]
  simp only [List.append_assoc, List.nil_append, List.cons_append]
/-- what is read has just these bytes -/
theorem fo_inv {s : RSt} {bad : Bool} (h : (rFS s).2 = 0) (hb : rFB s bad = false) : s.2 = 0 ∧ s.1 = foL (rFo s) [] ++ (rFS s).1 ∧ foB (rFo s) false = false ∧ wfF (rFo s) ∧ nzF (rFo s) = rFo s ∧ bad = false := by
  obtain ⟨a13, b13⟩ := nu_inv (s := rF12 s) h
  obtain ⟨a12, b12⟩ := su_inv (s := rF11 s) a13
  obtain ⟨a11, b11⟩ := su_inv (s := rF10 s) a12
  obtain ⟨a10, b10⟩ := su_inv (s := rF9 s) a11
  obtain ⟨a9, b9, hs, hb2⟩ := take_inv (s := rF8 s) a10 hb
  obtain ⟨a8, b8⟩ := su_inv (s := rF7 s) a9
  obtain ⟨a7, b7⟩ := su_inv (s := rF6 s) a8
  obtain ⟨a6, b6, hv⟩ := tx_inv (m := 64) (s := rF5 s) a7
  obtain ⟨a5, b5⟩ := nu_inv (s := rF4 s) a6
  obtain ⟨a4, b4⟩ := fl_inv (s := rF3 s) a5
  obtain ⟨a3, b3, hb3⟩ := raw_inv (n := 80) (s := rF2 s) a4 hb2
  obtain ⟨a2, b2⟩ := su_inv (s := rF1 s) a3
  obtain ⟨a1, b1⟩ := nu_inv (s := s) a2
  have hB : foB (rFo s) false = false := by
    unfold foB smB
    rw [if_neg (by have h_ : (rFo s).ss.length ≤ 256 := hs; omega)]
    exact txB_no.2 ⟨hv, rfl⟩
  obtain ⟨d1, d2, d3, d4⟩ := take_bd (rF8 s)
  refine ⟨a1, ?_, hB, ⟨⟨nu_i64 _, nu_i64 _, nu_i64 _⟩, ⟨suV_lt _, raw_lt 80 _, suV_lt _, suV_lt _⟩, ⟨d1, d2, d3⟩, suV_lt _, suV_lt _, suV_lt _⟩, ?_, hb3⟩
  · rw [foL_app hB]
    rw [b1]
    show eI _ ++ (rF1 s).1 = _
    rw [b2]
    show eI _ ++ (lb 32 _ ++ (rF2 s).1) = _
    rw [b3]
    show eI _ ++ (lb 32 _ ++ (tB _ ++ (rF3 s).1)) = _
    rw [b4]
    show eI _ ++ (lb 32 _ ++ (tB _ ++ (_ :: (rF4 s).1))) = _
    rw [b5]
    show eI _ ++ (lb 32 _ ++ (tB _ ++ (_ :: (eI _ ++ (rF5 s).1)))) = _
    rw [b6]
    show eI _ ++ (lb 32 _ ++ (tB _ ++ (_ :: (eI _ ++ (tB _ ++ (rF6 s).1))))) = _
    rw [b7]
    show eI _ ++ (lb 32 _ ++ (tB _ ++ (_ :: (eI _ ++ (tB _ ++ (lb 32 _ ++ (rF7 s).1)))))) = _
    rw [b8]
    show eI _ ++ (lb 32 _ ++ (tB _ ++ (_ :: (eI _ ++ (tB _ ++ (lb 32 _ ++ (lb 32 _ ++ (rF8 s).1))))))) = _
    rw [b9]
    show eI _ ++ (lb 32 _ ++ (tB _ ++ (_ :: (eI _ ++ (tB _ ++ (lb 32 _ ++ (lb 32 _ ++ (pB _ _ _ _ ++ (rF9 s).1)))))))) = _
    rw [b10]
    show eI _ ++ (lb 32 _ ++ (tB _ ++ (_ :: (eI _ ++ (tB _ ++ (lb 32 _ ++ (lb 32 _ ++ (pB _ _ _ _ ++ (lb 32 _ ++ (rF10 s).1))))))))) = _
    rw [b11]
    show eI _ ++ (lb 32 _ ++ (tB _ ++ (_ :: (eI _ ++ (tB _ ++ (lb 32 _ ++ (lb 32 _ ++ (pB _ _ _ _ ++ (lb 32 _ ++ (lb 32 _ ++ (rF11 s).1)))))))))) = _
    rw [b12]
    show eI _ ++ (lb 32 _ ++ (tB _ ++ (_ :: (eI _ ++ (tB _ ++ (lb 32 _ ++ (lb 32 _ ++ (pB _ _ _ _ ++ (lb 32 _ ++ (lb 32 _ ++ (lb 32 _ ++ (rF12 s).1))))))))))) = _
    rw [b13]
    rfl
  · exact nzF_id d4
end Go.Proofs.Ytlbgelbhhibikaa.Ww

set_option linter.unusedSimpArgs false
set_option linter.unusedVariables false
namespace Go.Proofs.Ytlbgelbhhibikaa.Ww
open Go.RowKit
set_option linter.unusedSimpArgs false
/-- counts -/
theorem be8_eI {n : Nat} (h : n < 9223372036854775808) : be8 n = eI (n : Int) := (eI_nat (by omega)).symm
theorem cnt_inv {m : Nat} {s : RSt} {bad : Bool} (hm : m ≤ 1000000) (h : (tkS 8 s).2 = 0) (hb : cB m s bad = false) : s.2 = 0 ∧ s.1 = be8 (cV m s) ++ (tkS 8 s).1 ∧ bad = false := by
  obtain ⟨h1, h2⟩ := nu_inv h
  unfold cB at hb
  by_cases hn : nuV s < 0 ∨ (m : Int) < nuV s
  · rw [if_pos hn] at hb; cases hb
  · rw [if_neg hn] at hb
    refine ⟨h1, ?_, hb⟩
    have := cV_le (m := m) (s := s)
    rw [be8_eI (by omega), cV_in hn]; exact h2
/-- sums -/
theorem sms_inv {n : Nat} {s : RSt} (h : (sumsS n s).2 = 0) : s.2 = 0 ∧ s.1 = ((sumsV n s).map (lb 32)).flatten ++ (sumsS n s).1 := by
  obtain ⟨h1, h2⟩ := sumsS_back n h
  obtain ⟨l, e⟩ := s
  obtain rfl : e = 0 := h1
  refine ⟨rfl, ?_⟩
  rw [sumsV_bytes n h2, sumsS_ok n l h2, List.take_append_drop]
theorem sm_inv {s : RSt} {bad : Bool} (h : (sumsS (cV 256 s) (tkS 8 s)).2 = 0) (hb : cB 256 s bad = false) : s.2 = 0 ∧ s.1 = sB (sumsV (cV 256 s) (tkS 8 s)) ++ (sumsS (cV 256 s) (tkS 8 s)).1 ∧ (sumsV (cV 256 s) (tkS 8 s)).length ≤ 256 ∧ bad = false := by
  obtain ⟨h1, h2⟩ := sms_inv h
  obtain ⟨h3, h4, h5⟩ := cnt_inv (by decide) h1 hb
  refine ⟨h3, ?_, by rw [sumsV_len]; exact cV_le, h5⟩
  unfold sB
  rw [sumsV_len, List.append_assoc, ← h2]; exact h4
theorem smL_app {ss : List Nat} {l r : List UInt8} {b : Bool} (h : smB ss b = false) : smL ss l ++ r = l ++ (sB ss ++ r) ∧ ss.length ≤ 256 ∧ b = false := by
  unfold smB at h
  by_cases hb : 256 < ss.length
  · rw [if_pos hb] at h; cases h
  · rw [if_neg hb] at h
    unfold smL; rw [if_neg hb, List.append_assoc]; exact ⟨rfl, by omega, h⟩
theorem smB_no {ss : List Nat} {b : Bool} (h : ss.length ≤ 256) (hb : b = false) : smB ss b = false := by unfold smB; rw [if_neg (by omega)]; exact hb
theorem pfL_app {ss : List Nat} {th : Bool} {a x : Nat} {l r : List UInt8} {b : Bool} (h : smB ss b = false) : pfL ss th a x l ++ r = l ++ (pB ss th a x ++ r) := by
  unfold smB at h
  by_cases hb : 256 < ss.length
  · rw [if_pos hb] at h; cases h
  · unfold pfL; rw [if_neg hb, List.append_assoc]
/-- what stands under a root -/
def unX (u : Un) (r : List UInt8) : List UInt8 := pB u.ss u.th u.a u.x ++ (eI u.ep ++ (lb 32 u.ro ++ (tB (lb 64 u.sig) ++ (lb 32 u.lo ++ (sB u.us ++ r)))))
def wfU (u : Un) : Prop := u.sig < 2 ^ (8 * 64) ∧ (∀ y ∈ u.ss, y < 2 ^ 256) ∧ u.a < 2 ^ 256 ∧ u.x < 2 ^ 256 ∧ ∀ y ∈ u.us, y < 2 ^ 256
theorem unL_app {u : Un} {l r : List UInt8} {b : Bool} (h : unB u b = false) : unL u l ++ r = l ++ unX u r ∧ u.ss.length ≤ 256 ∧ u.us.length ≤ 256 ∧ b = false := by
  unfold unB at h
  unfold unL unX
  obtain ⟨h1, h2, h3⟩ := smL_app (l := pfL u.ss u.th u.a u.x l ++ eI u.ep ++ lb 32 u.ro ++ tB (lb 64 u.sig) ++ lb 32 u.lo) (r := r) h
  obtain ⟨_, h5, h6⟩ := smL_app (l := l) (r := r) h3
  rw [h1]
  refine ⟨?_, h5, h2, h6⟩
  simp only [List.append_assoc]
  exact pfL_app h3
theorem un_inv {s : RSt} {bad : Bool} (h : (rUS s).2 = 0) (hb : rUB s bad = false) : s.2 = 0 ∧ s.1 = unX (rUn s) (rUS s).1 ∧ unB (rUn s) false = false ∧ wfU (rUn s) ∧ bad = false := by
  obtain ⟨a6, b6, hl, hb5⟩ := sm_inv (s := rU5 s) h hb
  obtain ⟨a5, b5⟩ := su_inv (s := rU4 s) a6
  obtain ⟨a4, b4, hb4⟩ := raw_inv (n := 64) (s := rU3 s) a5 hb5
  obtain ⟨a3, b3⟩ := su_inv (s := rU2 s) a4
  obtain ⟨a2, b2⟩ := nu_inv (s := rU1 s) a3
  obtain ⟨a1, b1, hs, hb1⟩ := take_inv (s := s) a2 hb4
  obtain ⟨d1, d2, d3, _⟩ := take_bd s
  refine ⟨a1, ?_, ?_, ⟨raw_lt 64 _, d1, d2, d3, sumsV_bd _ _⟩, hb1⟩
  · have b1 : s.1 = pB _ _ _ _ ++ (rU1 s).1 := b1
    have b2 : (rU1 s).1 = _ ++ (rU2 s).1 := b2
    have b3 : (rU2 s).1 = _ ++ (rU3 s).1 := b3
    have b4 : (rU3 s).1 = _ ++ (rU4 s).1 := b4
    have b5 : (rU4 s).1 = _ ++ (rU5 s).1 := b5
    have b6 : (rU5 s).1 = _ ++ (rUS s).1 := b6
    rw [b1, b2, b3, b4, b5, b6]; rfl
  · exact smB_no hl (smB_no hs rfl)
/-- members -/
def mbX (m : Mbr) (r : List UInt8) : List UInt8 := tB m.id ++ ((if m.gone = true then 1 else 0) :: (eI m.ep ++ (lb 32 m.li ++ r)))
theorem mbL_app {m : Mbr} {l r : List UInt8} {b : Bool} (h : mbB m b = false) : mbL m l ++ r = l ++ mbX m r ∧ (m.id.length : Int) ≤ 16 ∧ b = false := by
  obtain ⟨h1, h2⟩ := txB_no.1 h
  refine ⟨?_, h1, h2⟩
  unfold mbL mbX
  rw [txL_no h1]
  simp only [List.append_assoc, List.cons_append, List.nil_append]
theorem mb_inv {s : RSt} (h : (rMS s).2 = 0) : s.2 = 0 ∧ s.1 = mbX (rMb s) (rMS s).1 ∧ mbB (rMb s) false = false := by
  obtain ⟨a4, b4⟩ := su_inv (s := rM3 s) h
  obtain ⟨a3, b3⟩ := nu_inv (s := rM2 s) a4
  obtain ⟨a2, b2⟩ := fl_inv (s := rM1 s) a3
  obtain ⟨a1, b1, hl⟩ := tx_inv (m := 16) (s := s) a2
  refine ⟨a1, ?_, txB_no.2 ⟨hl, rfl⟩⟩
  have b1 : s.1 = _ ++ (rM1 s).1 := b1
  have b2 : (rM1 s).1 = _ :: (rM2 s).1 := b2
  have b3 : (rM2 s).1 = _ ++ (rM3 s).1 := b3
  have b4 : (rM3 s).1 = _ ++ (rMS s).1 := b4
  rw [b1, b2, b3, b4]; rfl
theorem mk_inv (n : Nat) : ∀ {s : RSt}, (mksS n s).2 = 0 → s.2 = 0 ∧ s.1 = ((mksV n s).map mkB).flatten ++ (mksS n s).1 := by
  induction n with
  | zero => intro s h; exact ⟨h, rfl⟩
  | succ n ih =>
    intro s h
    rw [← mksS_in] at h
    obtain ⟨h1, h2⟩ := ih h
    obtain ⟨a3, b3⟩ := su_inv (s := tkS 32 (tkS 8 s)) h1
    obtain ⟨a2, b2⟩ := su_inv (s := tkS 8 s) a3
    obtain ⟨a1, b1⟩ := nu_inv (s := s) a2
    refine ⟨a1, ?_⟩
    rw [← mksS_in]
    show s.1 = (mkB (mk1 s) ++ ((mksV n (mk1S s)).map mkB).flatten) ++ _
    rw [List.append_assoc, ← h2, b1, b2, b3]
    unfold mkB mk1
    simp only [List.append_assoc]; rfl
theorem mksL_app {ms : List Mrk} {l r : List UInt8} {b : Bool} (h : mksB ms b = false) : mksL ms l ++ r = l ++ (be8 ms.length ++ ((ms.map mkB).flatten ++ r)) ∧ ms.length ≤ 1024 ∧ b = false := by
  unfold mksB rwB at h
  by_cases hb : 1024 < ms.length
  · rw [if_pos hb] at h; cases h
  · rw [if_neg hb] at h
    refine ⟨?_, by omega, h⟩
    unfold mksL; rw [if_neg hb]; simp only [List.append_assoc]
/-- versions -/
def enX : List En → List UInt8 → List UInt8
  | [], r => r
  | y :: q, r => eI y.ep ++ (eI y.ver ++ (tB y.val ++ enX q r))
theorem ens_app : ∀ (q : List En) (l r : List UInt8) (b : Bool), ensB q b = false → ensL q l ++ r = l ++ enX q r ∧ (∀ y ∈ q, (y.val.length : Int) ≤ 64) ∧ b = false := by
  intro q
  induction q with
  | nil => intro l r b h; exact ⟨rfl, fun y hy => (by cases hy), h⟩
  | cons y q ih =>
    intro l r b h
    obtain ⟨h1, h2, h3⟩ := ih (enB 64 y l) r _ h
    obtain ⟨h4, h5⟩ := txB_no.1 h3
    refine ⟨?_, fun z hz => (List.mem_cons.1 hz).elim (fun e => by rw [e]; exact h4) (h2 z), h5⟩
    show ensL q (enB 64 y l) ++ r = _
    rw [h1]
    unfold enB
    rw [txL_no h4]
    show _ = l ++ (eI y.ep ++ (eI y.ver ++ (tB y.val ++ enX q r)))
    simp only [List.append_assoc]
theorem ensB_no : ∀ (q : List En), (∀ y ∈ q, (y.val.length : Int) ≤ 64) → ensB q false = false := by
  intro q
  induction q with
  | nil => intro _; rfl
  | cons y q ih =>
    intro h
    show ensB q (txB 64 y.val false) = false
    rw [txB_no.2 ⟨h y (List.mem_cons_self ..), rfl⟩]
    exact ih fun z hz => h z (List.mem_cons_of_mem _ hz)
theorem en_inv2 : ∀ (us : List Value) {s : RSt}, (ensS us.length s).2 = 0 → s.2 = 0 ∧ s.1 = enX (ensV us s) (ensS us.length s).1 ∧ ∀ y ∈ ensV us s, (y.val.length : Int) ≤ 64 := by
  intro us
  induction us with
  | nil => intro s h; exact ⟨h, rfl, fun y hy => by cases hy⟩
  | cons u us ih =>
    intro s h
    rw [List.length_cons, ← ensS_in] at h
    obtain ⟨h1, h2, h4⟩ := ih h
    obtain ⟨a3, b3, hl⟩ := tx_inv (m := 64) (s := tkS 8 (tkS 8 s)) h1
    obtain ⟨a2, b2⟩ := nu_inv (s := tkS 8 s) a3
    obtain ⟨a1, b1⟩ := nu_inv (s := s) a2
    refine ⟨a1, ?_, fun y hy => (List.mem_cons.1 hy).elim (fun e => by rw [e]; exact hl) (h4 y)⟩
    rw [List.length_cons, ← ensS_in]
    show s.1 = eI _ ++ (eI _ ++ (tB _ ++ enX (ensV us (en1S s)) _))
    rw [← h2, b1, b2, b3]; rfl
theorem esL_app {q : List En} {l r : List UInt8} {b : Bool} (h : esB q b = false) : esL q l ++ r = l ++ (be8 q.length ++ enX q r) ∧ q.length ≤ 1024 ∧ (∀ y ∈ q, (y.val.length : Int) ≤ 64) ∧ b = false := by
  unfold esB at h
  by_cases hb : 1024 < q.length
  · rw [if_pos hb] at h; cases h
  · rw [if_neg hb] at h
    obtain ⟨h1, h2, h3⟩ := ens_app q (l ++ be8 q.length) r b h
    unfold esL; rw [if_neg hb, h1, List.append_assoc]; exact ⟨rfl, by omega, h2, h3⟩
end Go.Proofs.Ytlbgelbhhibikaa.Ww
