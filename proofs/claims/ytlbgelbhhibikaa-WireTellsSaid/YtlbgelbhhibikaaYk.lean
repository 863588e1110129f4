/- The plain law of an answer's bytes: what is read of them has just these bytes, and of an answer's bytes one is read. No conditions. -/
import Derived.Test.YtlbgelbhhibikaaYj
import Derived.Test.YtlbgelbhhibikaaWx
set_option linter.unusedSimpArgs false
set_option linter.unusedVariables false
namespace Go.Proofs.Ytlbgelbhhibikaa.Ww
open Go.RowKit
set_option linter.unusedSimpArgs false
/-- counts -/
theorem be8_eI {n : Nat} (h : n < 9223372036854775808) : be8 n = eI (n : Int) := (eI_nat (by omega)).symm
theorem cnt_fwd {m n : Nat} {r : List UInt8} {bad : Bool} (hn : n ≤ m) (hm : m ≤ 1000000) : cV m (be8 n ++ r, 0) = n ∧ cB m (be8 n ++ r, 0) bad = bad ∧ tkS 8 (be8 n ++ r, 0) = (r, 0) := by
  have e := nuV_app (n := n) (r := r) (by omega)
  refine ⟨?_, ?_, tkS_app (be8_len n)⟩
  · unfold cV; rw [e, if_neg (by omega), Int.toNat_natCast]
  · unfold cB; rw [e, if_neg (by omega)]
theorem cnt_inv {m : Nat} {s : RSt} {bad : Bool} (hm : m ≤ 1000000) (h : (tkS 8 s).2 = 0) (hb : cB m s bad = false) : s.2 = 0 ∧ s.1 = be8 (cV m s) ++ (tkS 8 s).1 ∧ bad = false := by
  obtain ⟨h1, h2⟩ := nu_inv h
  unfold cB at hb
  by_cases hn : nuV s < 0 ∨ (m : Int) < nuV s
  · rw [if_pos hn] at hb; cases hb
  · rw [if_neg hn] at hb
    refine ⟨h1, ?_, hb⟩
    have := cV_le (m := m) (s := s)
    rw [be8_eI (by omega), cV_in hn]; exact h2
/-- sums -/
theorem sms_inv {n : Nat} {s : RSt} (h : (sumsS n s).2 = 0) : s.2 = 0 ∧ s.1 = ((sumsV n s).map (lb 32)).flatten ++ (sumsS n s).1 := by
  obtain ⟨h1, h2⟩ := sumsS_back n h
  obtain ⟨l, e⟩ := s
  obtain rfl : e = 0 := h1
  refine ⟨rfl, ?_⟩
  rw [sumsV_bytes n h2, sumsS_ok n l h2, List.take_append_drop]
theorem sm_fwd {ss : List Nat} {r : List UInt8} {bad : Bool} (hn : ss.length ≤ 256) (hb : ∀ y ∈ ss, y < 2 ^ 256) : sumsV (cV 256 (sB ss ++ r, 0)) (tkS 8 (sB ss ++ r, 0)) = ss ∧ cB 256 (sB ss ++ r, 0) bad = bad ∧ sumsS (cV 256 (sB ss ++ r, 0)) (tkS 8 (sB ss ++ r, 0)) = (r, 0) := by
  unfold sB
  rw [List.append_assoc]
  obtain ⟨h1, h2, h3⟩ := cnt_fwd (m := 256) (r := (ss.map (lb 32)).flatten ++ r) (bad := bad) hn (by decide)
  rw [h1, h2, h3]
  obtain ⟨h4, h5⟩ := sums_all (r := r) hb
  exact ⟨h4, rfl, h5⟩
theorem sm_inv {s : RSt} {bad : Bool} (h : (sumsS (cV 256 s) (tkS 8 s)).2 = 0) (hb : cB 256 s bad = false) : s.2 = 0 ∧ s.1 = sB (sumsV (cV 256 s) (tkS 8 s)) ++ (sumsS (cV 256 s) (tkS 8 s)).1 ∧ (sumsV (cV 256 s) (tkS 8 s)).length ≤ 256 ∧ bad = false := by
  obtain ⟨h1, h2⟩ := sms_inv h
  obtain ⟨h3, h4, h5⟩ := cnt_inv (by decide) h1 hb
  refine ⟨h3, ?_, by rw [sumsV_len]; exact cV_le, h5⟩
  unfold sB
  rw [sumsV_len, List.append_assoc, ← h2]; exact h4
theorem smL_app {ss : List Nat} {l r : List UInt8} {b : Bool} (h : smB ss b = false) : smL ss l ++ r = l ++ (sB ss ++ r) ∧ ss.length ≤ 256 ∧ b = false := by
  unfold smB at h
  by_cases hb : 256 < ss.length
  · rw [if_pos hb] at h; cases h
  · rw [if_neg hb] at h
    unfold smL; rw [if_neg hb, List.append_assoc]; exact ⟨rfl, by omega, h⟩
theorem smB_no {ss : List Nat} {b : Bool} (h : ss.length ≤ 256) (hb : b = false) : smB ss b = false := by unfold smB; rw [if_neg (by omega)]; exact hb
theorem pfL_app {ss : List Nat} {th : Bool} {a x : Nat} {l r : List UInt8} {b : Bool} (h : smB ss b = false) : pfL ss th a x l ++ r = l ++ (pB ss th a x ++ r) := by
  unfold smB at h
  by_cases hb : 256 < ss.length
  · rw [if_pos hb] at h; cases h
  · unfold pfL; rw [if_neg hb, List.append_assoc]
/-- what stands under a root -/
def unX (u : Un) (r : List UInt8) : List UInt8 := pB u.ss u.th u.a u.x ++ (eI u.ep ++ (lb 32 u.ro ++ (tB (lb 64 u.sig) ++ (lb 32 u.lo ++ (sB u.us ++ r)))))
def wfU (u : Un) : Prop := u.sig < 2 ^ (8 * 64) ∧ (∀ y ∈ u.ss, y < 2 ^ 256) ∧ u.a < 2 ^ 256 ∧ u.x < 2 ^ 256 ∧ ∀ y ∈ u.us, y < 2 ^ 256
theorem unL_app {u : Un} {l r : List UInt8} {b : Bool} (h : unB u b = false) : unL u l ++ r = l ++ unX u r ∧ u.ss.length ≤ 256 ∧ u.us.length ≤ 256 ∧ b = false := by
  unfold unB at h
  unfold unL unX
  obtain ⟨h1, h2, h3⟩ := smL_app (l := pfL u.ss u.th u.a u.x l ++ eI u.ep ++ lb 32 u.ro ++ tB (lb 64 u.sig) ++ lb 32 u.lo) (r := r) h
  obtain ⟨_, h5, h6⟩ := smL_app (l := l) (r := r) h3
  rw [h1]
  refine ⟨?_, h5, h2, h6⟩
  simp only [List.append_assoc]
  exact pfL_app h3
theorem un_fwd {u : Un} {bad : Bool} (hw : wfU u) (h1 : u.ss.length ≤ 256) (h2 : u.us.length ≤ 256) (r : List UInt8) : rUB (unX u r, 0) bad = bad ∧ rUS (unX u r, 0) = (r, 0) := by
  obtain ⟨w1, w2, w3, w4, w5⟩ := hw
  have ht := take_back (th := u.th) h1 w2 w3 w4 (eI u.ep ++ (lb 32 u.ro ++ (tB (lb 64 u.sig) ++ (lb 32 u.lo ++ (sB u.us ++ r)))))
  have E1 : rU1 (unX u r, 0) = (eI u.ep ++ (lb 32 u.ro ++ (tB (lb 64 u.sig) ++ (lb 32 u.lo ++ (sB u.us ++ r)))), 0) := by unfold rU1 unX; rw [ht]
  have E2 : rU2 (unX u r, 0) = (lb 32 u.ro ++ (tB (lb 64 u.sig) ++ (lb 32 u.lo ++ (sB u.us ++ r))), 0) := by unfold rU2; rw [E1]; exact tkS_app (eI_len _)
  have E3 : rU3 (unX u r, 0) = (tB (lb 64 u.sig) ++ (lb 32 u.lo ++ (sB u.us ++ r)), 0) := by unfold rU3; rw [E2]; exact tkS_app (lb_length _ _)
  obtain ⟨_, R2, R3⟩ := raw_app (n := 64) (X := u.sig) (r := lb 32 u.lo ++ (sB u.us ++ r)) (bad := bad) (by decide) w1
  have E4 : rU4 (unX u r, 0) = (lb 32 u.lo ++ (sB u.us ++ r), 0) := by unfold rU4; rw [E3]; exact R3
  have E5 : rU5 (unX u r, 0) = (sB u.us ++ r, 0) := by unfold rU5; rw [E4]; exact tkS_app (lb_length _ _)
  obtain ⟨_, S2, S3⟩ := sm_fwd (r := r) (bad := bad) h2 w5
  have P : pB2 (unX u r, 0) bad = bad := by unfold pB2 unX; rw [ht]; rfl
  constructor
  · unfold rUB; rw [E5, E3, P, R2, S2]
  · unfold rUS; rw [E5]; exact S3
theorem un_inv {s : RSt} {bad : Bool} (h : (rUS s).2 = 0) (hb : rUB s bad = false) : s.2 = 0 ∧ s.1 = unX (rUn s) (rUS s).1 ∧ unB (rUn s) false = false ∧ wfU (rUn s) ∧ bad = false := by
  obtain ⟨a6, b6, hl, hb5⟩ := sm_inv (s := rU5 s) h hb
  obtain ⟨a5, b5⟩ := su_inv (s := rU4 s) a6
  obtain ⟨a4, b4, hb4⟩ := raw_inv (n := 64) (s := rU3 s) a5 hb5
  obtain ⟨a3, b3⟩ := su_inv (s := rU2 s) a4
  obtain ⟨a2, b2⟩ := nu_inv (s := rU1 s) a3
  obtain ⟨a1, b1, hs, hb1⟩ := take_inv (s := s) a2 hb4
  obtain ⟨d1, d2, d3, _⟩ := take_bd s
  refine ⟨a1, ?_, ?_, ⟨raw_lt 64 _, d1, d2, d3, sumsV_bd _ _⟩, hb1⟩
  · have b1 : s.1 = pB _ _ _ _ ++ (rU1 s).1 := b1
    have b2 : (rU1 s).1 = _ ++ (rU2 s).1 := b2
    have b3 : (rU2 s).1 = _ ++ (rU3 s).1 := b3
    have b4 : (rU3 s).1 = _ ++ (rU4 s).1 := b4
    have b5 : (rU4 s).1 = _ ++ (rU5 s).1 := b5
    have b6 : (rU5 s).1 = _ ++ (rUS s).1 := b6
    rw [b1, b2, b3, b4, b5, b6]; rfl
  · exact smB_no hl (smB_no hs rfl)
/-- members -/
def mbX (m : Mbr) (r : List UInt8) : List UInt8 := tB m.id ++ ((if m.gone = true then 1 else 0) :: (eI m.ep ++ (lb 32 m.li ++ r)))
theorem mbL_app {m : Mbr} {l r : List UInt8} {b : Bool} (h : mbB m b = false) : mbL m l ++ r = l ++ mbX m r ∧ (m.id.length : Int) ≤ 16 ∧ b = false := by
  obtain ⟨h1, h2⟩ := txB_no.1 h
  refine ⟨?_, h1, h2⟩
  unfold mbL mbX
  rw [txL_no h1]
  simp only [List.append_assoc, List.cons_append, List.nil_append]
theorem mb_fwd {m : Mbr} (h : (m.id.length : Int) ≤ 16) (r : List UInt8) : rMS (mbX m r, 0) = (r, 0) := by
  unfold rMS rM3 rM2 rM1 mbX
  rw [txS_tB h (by decide), (fl_app m.gone _).2, tkS_app (eI_len _), tkS_app (lb_length _ _)]
theorem mb_inv {s : RSt} (h : (rMS s).2 = 0) : s.2 = 0 ∧ s.1 = mbX (rMb s) (rMS s).1 ∧ mbB (rMb s) false = false := by
  obtain ⟨a4, b4⟩ := su_inv (s := rM3 s) h
  obtain ⟨a3, b3⟩ := nu_inv (s := rM2 s) a4
  obtain ⟨a2, b2⟩ := fl_inv (s := rM1 s) a3
  obtain ⟨a1, b1, hl⟩ := tx_inv (m := 16) (s := s) a2
  refine ⟨a1, ?_, txB_no.2 ⟨hl, rfl⟩⟩
  have b1 : s.1 = _ ++ (rM1 s).1 := b1
  have b2 : (rM1 s).1 = _ :: (rM2 s).1 := b2
  have b3 : (rM2 s).1 = _ ++ (rM3 s).1 := b3
  have b4 : (rM3 s).1 = _ ++ (rMS s).1 := b4
  rw [b1, b2, b3, b4]; rfl
/-- marks -/
theorem mk_fwd (ms : List Mrk) (r : List UInt8) : mksS ms.length ((ms.map mkB).flatten ++ r, 0) = (r, 0) := by
  induction ms with
  | nil => rfl
  | cons m ms ih =>
    rw [List.length_cons, ← mksS_in, List.map_cons, List.flatten_cons, List.append_assoc]
    have e : mk1S (mkB m ++ ((ms.map mkB).flatten ++ r), 0) = ((ms.map mkB).flatten ++ r, 0) := by
      unfold mk1S mkB
      rw [List.append_assoc, List.append_assoc, tkS_app (eI_len _), tkS_app (lb_length _ _), tkS_app (lb_length _ _)]
    rw [e]; exact ih
theorem mk_inv (n : Nat) : ∀ {s : RSt}, (mksS n s).2 = 0 → s.2 = 0 ∧ s.1 = ((mksV n s).map mkB).flatten ++ (mksS n s).1 := by
  induction n with
  | zero => intro s h; exact ⟨h, rfl⟩
  | succ n ih =>
    intro s h
    rw [← mksS_in] at h
    obtain ⟨h1, h2⟩ := ih h
    obtain ⟨a3, b3⟩ := su_inv (s := tkS 32 (tkS 8 s)) h1
    obtain ⟨a2, b2⟩ := su_inv (s := tkS 8 s) a3
    obtain ⟨a1, b1⟩ := nu_inv (s := s) a2
    refine ⟨a1, ?_⟩
    rw [← mksS_in]
    show s.1 = (mkB (mk1 s) ++ ((mksV n (mk1S s)).map mkB).flatten) ++ _
    rw [List.append_assoc, ← h2, b1, b2, b3]
    unfold mkB mk1
    simp only [List.append_assoc]; rfl
theorem mksL_app {ms : List Mrk} {l r : List UInt8} {b : Bool} (h : mksB ms b = false) : mksL ms l ++ r = l ++ (be8 ms.length ++ ((ms.map mkB).flatten ++ r)) ∧ ms.length ≤ 1024 ∧ b = false := by
  unfold mksB rwB at h
  by_cases hb : 1024 < ms.length
  · rw [if_pos hb] at h; cases h
  · rw [if_neg hb] at h
    refine ⟨?_, by omega, h⟩
    unfold mksL; rw [if_neg hb]; simp only [List.append_assoc]
/-- versions -/
def enX : List En → List UInt8 → List UInt8
  | [], r => r
  | y :: q, r => eI y.ep ++ (eI y.ver ++ (tB y.val ++ enX q r))
theorem ens_app : ∀ (q : List En) (l r : List UInt8) (b : Bool), ensB q b = false → ensL q l ++ r = l ++ enX q r ∧ (∀ y ∈ q, (y.val.length : Int) ≤ 64) ∧ b = false := by
  intro q
  induction q with
  | nil => intro l r b h; exact ⟨rfl, fun y hy => (by cases hy), h⟩
  | cons y q ih =>
    intro l r b h
    obtain ⟨h1, h2, h3⟩ := ih (enB 64 y l) r _ h
    obtain ⟨h4, h5⟩ := txB_no.1 h3
    refine ⟨?_, fun z hz => (List.mem_cons.1 hz).elim (fun e => by rw [e]; exact h4) (h2 z), h5⟩
    show ensL q (enB 64 y l) ++ r = _
    rw [h1]
    unfold enB
    rw [txL_no h4]
    show _ = l ++ (eI y.ep ++ (eI y.ver ++ (tB y.val ++ enX q r)))
    simp only [List.append_assoc]
theorem ensB_no : ∀ (q : List En), (∀ y ∈ q, (y.val.length : Int) ≤ 64) → ensB q false = false := by
  intro q
  induction q with
  | nil => intro _; rfl
  | cons y q ih =>
    intro h
    show ensB q (txB 64 y.val false) = false
    rw [txB_no.2 ⟨h y (List.mem_cons_self ..), rfl⟩]
    exact ih fun z hz => h z (List.mem_cons_of_mem _ hz)
theorem en_fwd : ∀ (q : List En), (∀ y ∈ q, (y.val.length : Int) ≤ 64) → ∀ r, ensS q.length (enX q r, 0) = (r, 0) := by
  intro q
  induction q with
  | nil => intro _ r; rfl
  | cons y q ih =>
    intro h r
    rw [List.length_cons, ← ensS_in]
    have e : en1S (enX (y :: q) r, 0) = (enX q r, 0) := by
      show txS 64 (tkS 8 (tkS 8 (eI y.ep ++ (eI y.ver ++ (tB y.val ++ enX q r)), 0))) = _
      rw [tkS_app (eI_len _), tkS_app (eI_len _), txS_tB (h y (List.mem_cons_self ..)) (by decide)]
    rw [e]; exact ih (fun z hz => h z (List.mem_cons_of_mem _ hz)) r
theorem en_inv2 : ∀ (us : List Value) {s : RSt}, (ensS us.length s).2 = 0 → s.2 = 0 ∧ s.1 = enX (ensV us s) (ensS us.length s).1 ∧ ∀ y ∈ ensV us s, (y.val.length : Int) ≤ 64 := by
  intro us
  induction us with
  | nil => intro s h; exact ⟨h, rfl, fun y hy => by cases hy⟩
  | cons u us ih =>
    intro s h
    rw [List.length_cons, ← ensS_in] at h
    obtain ⟨h1, h2, h4⟩ := ih h
    obtain ⟨a3, b3, hl⟩ := tx_inv (m := 64) (s := tkS 8 (tkS 8 s)) h1
    obtain ⟨a2, b2⟩ := nu_inv (s := tkS 8 s) a3
    obtain ⟨a1, b1⟩ := nu_inv (s := s) a2
    refine ⟨a1, ?_, fun y hy => (List.mem_cons.1 hy).elim (fun e => by rw [e]; exact hl) (h4 y)⟩
    rw [List.length_cons, ← ensS_in]
    show s.1 = eI _ ++ (eI _ ++ (tB _ ++ enX (ensV us (en1S s)) _))
    rw [← h2, b1, b2, b3]; rfl
theorem esL_app {q : List En} {l r : List UInt8} {b : Bool} (h : esB q b = false) : esL q l ++ r = l ++ (be8 q.length ++ enX q r) ∧ q.length ≤ 1024 ∧ (∀ y ∈ q, (y.val.length : Int) ≤ 64) ∧ b = false := by
  unfold esB at h
  by_cases hb : 1024 < q.length
  · rw [if_pos hb] at h; cases h
  · rw [if_neg hb] at h
    obtain ⟨h1, h2, h3⟩ := ens_app q (l ++ be8 q.length) r b h
    unfold esL; rw [if_neg hb, h1, List.append_assoc]; exact ⟨rfl, by omega, h2, h3⟩
end Go.Proofs.Ytlbgelbhhibikaa.Ww
