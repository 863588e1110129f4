/- The plain law of an answer's bytes, whole: Told and Tell. No conditions. -/
import Derived.Test.YtlbgelbhhibikaaYk
set_option linter.unusedSimpArgs false
set_option linter.unusedVariables false
namespace Go.Proofs.Ytlbgelbhhibikaa.Ww
open Go.RowKit
set_option linter.unusedSimpArgs false
/-- an answer whose numbers are small enough -/
def wfA (a : An) : Prop := wfF a.f ∧ wfU a.u ∧ (∀ y ∈ a.lat, y < 2 ^ 256) ∧ ∀ y ∈ a.su, y < 2 ^ 256
/-- what stands behind the kind and the error -/
def anX (a : An) (r : List UInt8) : List UInt8 :=
  if a.k = 1 then eI a.ep ++ r
  else if a.k = 10 then eI a.ep ++ r
  else if a.k = 6 then foL a.f [] ++ (lb 32 a.pub ++ (sB a.lat ++ unX a.u r))
  else if a.k = 7 then be8 a.en.length ++ enX a.en r
  else if a.k = 8 then be8 a.mks.length ++ ((a.mks.map mkB).flatten ++ r)
  else if a.k = 9 then tB a.bun ++ r
  else if a.k = 11 then mbX a.m (unX a.u r)
  else if a.k = 12 then lb 32 a.lo ++ (sB a.su ++ r)
  else r
theorem foL_pre {f : Fo} {l r : List UInt8} (h : foB f false = false) : foL f l ++ r = l ++ (foL f [] ++ r) := by
  obtain ⟨h1, h2⟩ := foB_no h
  rw [foL_app h]
  unfold foL pfL foL1
  rw [if_neg (by omega), txL_no h1]
  simp only [List.append_assoc, List.cons_append, List.nil_append]
theorem an_app {a : An} {l r : List UInt8} (h : anB a = false) : anL a l ++ r = l ++ anX a r := by
  unfold anB at h
  unfold anL anX
  by_cases h1 : a.k = 1
  · rw [if_pos h1, if_pos h1, List.append_assoc]
  rw [if_neg h1, if_neg h1]
  by_cases h2 : a.k = 10
  · rw [if_pos h2, if_pos h2, List.append_assoc]
  rw [if_neg h2, if_neg h2]
  by_cases h3 : a.k = 6
  · rw [if_pos h3] at h
    rw [if_pos h3, if_pos h3]
    obtain ⟨e1, _, _, e2⟩ := unL_app (l := smL a.lat (foL a.f l ++ lb 32 a.pub)) (r := r) h
    obtain ⟨e3, _, e4⟩ := smL_app (l := foL a.f l ++ lb 32 a.pub) (r := unX a.u r) e2
    rw [e1, e3, List.append_assoc, foL_pre e4]
  rw [if_neg h3] at h
  rw [if_neg h3, if_neg h3]
  by_cases h4 : a.k = 7
  · rw [if_pos h4] at h
    rw [if_pos h4, if_pos h4]; exact (esL_app h).1
  rw [if_neg h4] at h
  rw [if_neg h4, if_neg h4]
  by_cases h5 : a.k = 8
  · rw [if_pos h5] at h
    rw [if_pos h5, if_pos h5]; exact (mksL_app h).1
  rw [if_neg h5] at h
  rw [if_neg h5, if_neg h5]
  by_cases h6 : a.k = 9
  · rw [if_pos h6] at h
    rw [if_pos h6, if_pos h6, txL_no (txB_no.1 h).1, List.append_assoc]
  rw [if_neg h6] at h
  rw [if_neg h6, if_neg h6]
  by_cases h7 : a.k = 11
  · rw [if_pos h7] at h
    rw [if_pos h7, if_pos h7]
    obtain ⟨e1, _, _, e2⟩ := unL_app (l := mbL a.m l) (r := r) h
    rw [e1]; exact (mbL_app e2).1
  rw [if_neg h7] at h
  rw [if_neg h7, if_neg h7]
  by_cases h8 : a.k = 12
  · rw [if_pos h8] at h
    rw [if_pos h8, if_pos h8, (smL_app h).1, List.append_assoc]
  · rw [if_neg h8, if_neg h8]
theorem anX_1 {a : An} {r : List UInt8} (h : a.k = 1) : anX a r = eI a.ep ++ r := by unfold anX; rw [h]; rfl
theorem anX_10 {a : An} {r : List UInt8} (h : a.k = 10) : anX a r = eI a.ep ++ r := by unfold anX; rw [h]; rfl
theorem anX_6 {a : An} {r : List UInt8} (h : a.k = 6) : anX a r = foL a.f [] ++ (lb 32 a.pub ++ (sB a.lat ++ unX a.u r)) := by unfold anX; rw [h]; rfl
theorem anX_7 {a : An} {r : List UInt8} (h : a.k = 7) : anX a r = be8 a.en.length ++ enX a.en r := by unfold anX; rw [h]; rfl
theorem anX_8 {a : An} {r : List UInt8} (h : a.k = 8) : anX a r = be8 a.mks.length ++ ((a.mks.map mkB).flatten ++ r) := by unfold anX; rw [h]; rfl
theorem anX_9 {a : An} {r : List UInt8} (h : a.k = 9) : anX a r = tB a.bun ++ r := by unfold anX; rw [h]; rfl
theorem anX_11 {a : An} {r : List UInt8} (h : a.k = 11) : anX a r = mbX a.m (unX a.u r) := by unfold anX; rw [h]; rfl
theorem anX_12 {a : An} {r : List UInt8} (h : a.k = 12) : anX a r = lb 32 a.lo ++ (sB a.su ++ r) := by unfold anX; rw [h]; rfl
/-- an answer's bytes are read to their end -/
theorem an_fwd {a : An} (h : anB a = false) (hw : wfA a) (r : List UInt8) : rB a.k (anX a r, 0) = false ∧ rS a.k (anX a r, 0) = (r, 0) := by
  obtain ⟨wf, wu, wl, ws⟩ := hw
  by_cases h1 : a.k = 1
  · obtain ⟨_, e2, e3⟩ := r_1 (er := 0) (us := []) (s := (anX a r, 0)) h1
    rw [e2, e3, anX_1 h1]; exact ⟨rfl, tkS_app (eI_len _)⟩
  by_cases h2 : a.k = 10
  · obtain ⟨_, e2, e3⟩ := r_10 (er := 0) (us := []) (s := (anX a r, 0)) h2
    rw [e2, e3, anX_10 h2]; exact ⟨rfl, tkS_app (eI_len _)⟩
  by_cases h3 : a.k = 6
  · obtain ⟨_, e2, e3⟩ := r_6 (er := 0) (us := []) (s := (anX a r, 0)) h3
    rw [anB_6 h3] at h
    rw [e2, e3, anX_6 h3]
    obtain ⟨_, u1, u2, e2⟩ := unL_app (l := []) (r := r) h
    obtain ⟨_, u3, e4⟩ := smL_app (l := []) (r := r) e2
    obtain ⟨F1, F2, F3⟩ := fo_back e4 wf (lb 32 a.pub ++ (sB a.lat ++ unX a.u r)) false
    have E1 : rL1 (foL a.f [] ++ (lb 32 a.pub ++ (sB a.lat ++ unX a.u r)), 0) = (sB a.lat ++ unX a.u r, 0) := by unfold rL1; rw [F3]; exact tkS_app (lb_length _ _)
    obtain ⟨_, S2, S3⟩ := sm_fwd (r := unX a.u r) (bad := false) u3 wl
    have E2 : rL2 (foL a.f [] ++ (lb 32 a.pub ++ (sB a.lat ++ unX a.u r)), 0) = (unX a.u r, 0) := by unfold rL2; rw [E1]; exact S3
    obtain ⟨U1, U2⟩ := un_fwd (bad := false) wu u1 u2 r
    rw [E1, E2, F2, S2]; exact ⟨U1, U2⟩
  by_cases h4 : a.k = 7
  · obtain ⟨_, e2, e3⟩ := r_7 (er := 0) (us := []) (s := (anX a r, 0)) h4
    rw [anB_7 h4] at h
    rw [e2, e3, anX_7 h4]
    obtain ⟨_, e1, e2, _⟩ := esL_app (l := []) (r := r) h
    obtain ⟨C1, C2, C3⟩ := cnt_fwd (m := 1024) (r := enX a.en r) (bad := false) e1 (by decide)
    rw [C1, C2, C3]; exact ⟨rfl, en_fwd _ e2 r⟩
  by_cases h5 : a.k = 8
  · obtain ⟨_, e2, e3⟩ := r_8 (er := 0) (us := []) (s := (anX a r, 0)) h5
    rw [anB_8 h5] at h
    rw [e2, e3, anX_8 h5]
    obtain ⟨_, e1, _⟩ := mksL_app (l := []) (r := r) h
    obtain ⟨C1, C2, C3⟩ := cnt_fwd (m := 1024) (r := (a.mks.map mkB).flatten ++ r) (bad := false) e1 (by decide)
    rw [C1, C2, C3]; exact ⟨rfl, mk_fwd _ r⟩
  by_cases h6 : a.k = 9
  · obtain ⟨_, e2, e3⟩ := r_9 (er := 0) (us := []) (s := (anX a r, 0)) h6
    rw [anB_9 h6] at h
    rw [e2, e3, anX_9 h6]; exact ⟨rfl, txS_tB (txB_no.1 h).1 (by decide)⟩
  by_cases h7 : a.k = 11
  · obtain ⟨_, e2, e3⟩ := r_11 (er := 0) (us := []) (s := (anX a r, 0)) h7
    rw [anB_11 h7] at h
    rw [e2, e3, anX_11 h7]
    obtain ⟨_, u1, u2, e2⟩ := unL_app (l := []) (r := r) h
    obtain ⟨_, e3, _⟩ := mbL_app (l := []) (r := r) e2
    have M := mb_fwd e3 (unX a.u r)
    obtain ⟨U1, U2⟩ := un_fwd (bad := false) wu u1 u2 r
    rw [M]; exact ⟨U1, U2⟩
  by_cases h8 : a.k = 12
  · obtain ⟨_, e2, e3⟩ := r_12 (er := 0) (us := []) (s := (anX a r, 0)) h8
    rw [anB_12 h8] at h
    rw [e2, e3, anX_12 h8]
    obtain ⟨_, e1, _⟩ := smL_app (l := []) (r := r) h
    obtain ⟨_, S2, S3⟩ := sm_fwd (r := r) (bad := false) e1 ws
    rw [tkS_app (lb_length _ _), S2]; exact ⟨rfl, S3⟩
  obtain ⟨_, e2, e3⟩ := r_o (er := 0) (us := []) (s := (anX a r, 0)) ⟨h1, h2, h3, h4, h5, h6, h7, h8⟩
  have e : anX a r = r := by unfold anX; simp only [if_neg h1, if_neg h2, if_neg h3, if_neg h4, if_neg h5, if_neg h6, if_neg h7, if_neg h8]
  rw [e2, e3, e]; exact ⟨rfl, rfl⟩
theorem z_lt {x : Nat} (n : Nat) (h : x = 0) : x < 2 ^ n := by rw [h]; exact Nat.two_pow_pos n
theorem z_lt8 {x : Nat} (n : Nat) (h : x = 0) : x < 2 ^ (8 * n) := z_lt (8 * n) h
theorem zF_wf2 {f : Fo} (h : f = zFo) : wfF f := by
  have hi : ∀ {n : Int}, n = 0 → i64 n := fun h => by rw [h]; unfold i64; omega
  exact ⟨⟨hi (by rw [h]), hi (by rw [h]), hi (by rw [h])⟩, ⟨z_lt (x := f.ix) 256 (by rw [h]), z_lt8 (x := f.vr) 80 (by rw [h]), z_lt (x := f.bo) 256 (by rw [h]), z_lt (x := f.op) 256 (by rw [h])⟩, ⟨fun y hy => (by rw [h] at hy; cases hy), z_lt (x := f.a) 256 (by rw [h]), z_lt (x := f.x) 256 (by rw [h])⟩, z_lt (x := f.ro) 256 (by rw [h]), z_lt (x := f.li) 256 (by rw [h]), z_lt (x := f.ah) 256 (by rw [h])⟩
theorem zF_wf : wfF zFo := zF_wf2 rfl
theorem zU_wf2 {u : Un} (h : u = zUn) : wfU u := ⟨z_lt8 (x := u.sig) 64 (by rw [h]), fun y hy => (by rw [h] at hy; cases hy), z_lt (x := u.a) 256 (by rw [h]), z_lt (x := u.x) 256 (by rw [h]), fun y hy => by rw [h] at hy; cases hy⟩
theorem zU_wf : wfU zUn := zU_wf2 rfl
theorem nolt {l : List Nat} (h : l = []) : ∀ y ∈ l, y < 2 ^ 256 := fun y hy => by rw [h] at hy; cases hy
/-- what is read of an answer has just these bytes -/
theorem an_inv {k er : Int} {us : List Value} {s : RSt} (h : (rS k s).2 = 0) (hb : rB k s = false) (hu : k = 7 → cV 1024 s = us.length) : s.2 = 0 ∧ s.1 = anX (rA k er us s) (rS k s).1 ∧ anB (rA k er us s) = false ∧ wfA (rA k er us s) := by
  by_cases h1 : k = 1
  · obtain ⟨e1, e2, e3⟩ := r_1 (er := er) (us := us) (s := s) h1
    rw [e2] at h ⊢; rw [e1]; subst h1
    obtain ⟨a, b⟩ := nu_inv h
    exact ⟨a, b, rfl, zF_wf, zU_wf, nolt rfl, nolt rfl⟩
  by_cases h2 : k = 10
  · obtain ⟨e1, e2, e3⟩ := r_10 (er := er) (us := us) (s := s) h2
    rw [e2] at h ⊢; rw [e1]; subst h2
    obtain ⟨a, b⟩ := nu_inv h
    exact ⟨a, b, rfl, zF_wf, zU_wf, nolt rfl, nolt rfl⟩
  by_cases h3 : k = 6
  · obtain ⟨e1, e2, e3⟩ := r_6 (er := er) (us := us) (s := s) h3
    rw [e2] at h ⊢; rw [e3] at hb; rw [e1]; subst h3
    obtain ⟨a4, b4, u4, w4, hb4⟩ := un_inv (s := rL2 s) h hb
    obtain ⟨a3, b3, l3, hb3⟩ := sm_inv (s := rL1 s) a4 hb4
    obtain ⟨a2, b2⟩ := su_inv (s := rFS s) a3
    obtain ⟨a1, b1, f1, w1, _⟩ := fo_inv a2 hb3
    refine ⟨a1, ?_, ?_, w1, w4, sumsV_bd _ _, nolt rfl⟩
    · have b2 : (rFS s).1 = _ ++ (rL1 s).1 := b2
      have b3 : (rL1 s).1 = _ ++ (rL2 s).1 := b3
      rw [b1, b2, b3, b4]; rfl
    · show unB (rUn (rL2 s)) (smB (sumsV (cV 256 (rL1 s)) (tkS 8 (rL1 s))) (foB (rFo s) false)) = false
      rw [smB_no l3 f1]; exact u4
  by_cases h4 : k = 7
  · obtain ⟨e1, e2, e3⟩ := r_7 (er := er) (us := us) (s := s) h4
    have hl := hu h4
    rw [e2] at h ⊢; rw [e3] at hb; rw [e1]; subst h4
    have h' := h; rw [hl] at h'
    obtain ⟨a2, b2, l2⟩ := en_inv2 us h'
    obtain ⟨a1, b1, _⟩ := cnt_inv (by decide) a2 hb
    have hc := cV_le (m := 1024) (s := s)
    have hle : (ensV us (tkS 8 s)).length = cV 1024 s := by rw [ensV_len, hl]
    refine ⟨a1, ?_, ?_, zF_wf, zU_wf, nolt rfl, nolt rfl⟩
    · show s.1 = be8 (ensV us (tkS 8 s)).length ++ enX (ensV us (tkS 8 s)) _
      rw [hle, hl, ← b2, ← hl]; exact b1
    · show esB (ensV us (tkS 8 s)) false = false
      unfold esB
      rw [if_neg (by omega)]; exact ensB_no _ l2
  by_cases h5 : k = 8
  · obtain ⟨e1, e2, e3⟩ := r_8 (er := er) (us := us) (s := s) h5
    rw [e2] at h ⊢; rw [e3] at hb; rw [e1]; subst h5
    obtain ⟨a2, b2⟩ := mk_inv _ h
    obtain ⟨a1, b1, _⟩ := cnt_inv (by decide) a2 hb
    have hc := cV_le (m := 1024) (s := s)
    refine ⟨a1, ?_, ?_, zF_wf, zU_wf, nolt rfl, nolt rfl⟩
    · show s.1 = be8 (mksV (cV 1024 s) (tkS 8 s)).length ++ (((mksV (cV 1024 s) (tkS 8 s)).map mkB).flatten ++ _)
      rw [mksV_len, ← b2]; exact b1
    · show mksB (mksV (cV 1024 s) (tkS 8 s)) false = false
      unfold mksB rwB
      rw [mksV_len, if_neg (by omega)]
  by_cases h6 : k = 9
  · obtain ⟨e1, e2, e3⟩ := r_9 (er := er) (us := us) (s := s) h6
    rw [e2] at h ⊢; rw [e1]; subst h6
    obtain ⟨a, b, hl⟩ := tx_inv h
    exact ⟨a, b, txB_no.2 ⟨hl, rfl⟩, zF_wf, zU_wf, nolt rfl, nolt rfl⟩
  by_cases h7 : k = 11
  · obtain ⟨e1, e2, e3⟩ := r_11 (er := er) (us := us) (s := s) h7
    rw [e2] at h ⊢; rw [e3] at hb; rw [e1]; subst h7
    obtain ⟨a4, b4, u4, w4, _⟩ := un_inv (s := rMS s) h hb
    obtain ⟨a1, b1, m1⟩ := mb_inv a4
    refine ⟨a1, ?_, ?_, zF_wf, w4, nolt rfl, nolt rfl⟩
    · show s.1 = mbX (rMb s) (unX (rUn (rMS s)) _)
      rw [← b4]; exact b1
    · show unB (rUn (rMS s)) (mbB (rMb s) false) = false
      rw [m1]; exact u4
  by_cases h8 : k = 12
  · obtain ⟨e1, e2, e3⟩ := r_12 (er := er) (us := us) (s := s) h8
    rw [e2] at h ⊢; rw [e3] at hb; rw [e1]; subst h8
    obtain ⟨a3, b3, l3, _⟩ := sm_inv (s := tkS 32 s) h hb
    obtain ⟨a2, b2⟩ := su_inv a3
    refine ⟨a2, ?_, smB_no l3 rfl, zF_wf, zU_wf, nolt rfl, sumsV_bd _ _⟩
    show s.1 = lb 32 (suV s) ++ (sB (sumsV (cV 256 (tkS 32 s)) (tkS 8 (tkS 32 s))) ++ _)
    rw [← b3]; exact b2
  · have hno : noK k := ⟨h1, h2, h3, h4, h5, h6, h7, h8⟩
    obtain ⟨e1, e2, e3⟩ := r_o (er := er) (us := us) (s := s) hno
    rw [e2] at h ⊢; rw [e1]
    refine ⟨h, ?_, ?_, zF_wf, zU_wf, nolt rfl, nolt rfl⟩
    · unfold anX
      simp only [if_neg h1, if_neg h2, if_neg h3, if_neg h4, if_neg h5, if_neg h6, if_neg h7, if_neg h8]
    · unfold anB
      simp only [if_neg h3, if_neg h4, if_neg h5, if_neg h6, if_neg h7, if_neg h8]
theorem rA_ke (k er : Int) (us : List Value) (s : RSt) : (rA k er us s).k = k ∧ (rA k er us s).er = er := by
  unfold rA
  repeat' split
  all_goals exact ⟨rfl, rfl⟩
theorem byV_lt (s : RSt) : byV s < 256 := by
  unfold byV
  split
  · exact UInt8.toNat_lt _
  · decide
/-- what is told to be an answer has just these bytes -/
theorem told_inv {l : List UInt8} {us : List Value} (h : toldO l = true) (hu : byV (sT1 l) = 0 → kT l = 7 → cV 1024 (sT2 l) = us.length) : telB (toldA l us) = false ∧ telL (toldA l us) = l ∧ wfA (toldA l us) ∧ (toldA l us).k = kT l ∧ (toldA l us).er = eT l := by
  unfold toldO at h
  rw [Bool.and_eq_true, Bool.not_eq_true', decide_eq_false_iff_not] at h
  obtain ⟨hk, h⟩ := h
  have hke : (toldA l us).k = kT l ∧ (toldA l us).er = eT l := by
    unfold toldA; split
    · exact rA_ke _ _ _ _
    · exact ⟨rfl, rfl⟩
  have hlt := byV_lt (sT1 l)
  have hK : telK (toldA l us) := by
    have e1 : kT l = (byV (l, 0) : Int) := rfl
    have e2 : eT l = (byV (sT1 l) : Int) := rfl
    unfold telK; rw [hke.1, hke.2, e1, e2]; omega
  have hhd : ∀ s : RSt, (tkS 1 (l, 0)).2 = 0 → sT1 l = tkS 1 (l, 0) → s = tkS 1 (sT1 l) → s.2 = 0 → l = u8 (byV (l, 0)) :: (u8 (byV (sT1 l)) :: s.1) := fun s _ h1 h2 h3 => by
    subst h2
    obtain ⟨a2, b2⟩ := by_inv h3
    rw [h1] at a2 b2 ⊢
    obtain ⟨_, b1⟩ := by_inv a2
    have b1 : l = u8 (byV (l, 0)) :: (tkS 1 (l, 0)).1 := b1
    rw [← b2]; exact b1
  have hn : ∀ n : Nat, ((n : Int)).toNat = n := fun n => Int.toNat_natCast n
  by_cases he : byV (sT1 l) = 0
  · rw [if_pos he] at h
    unfold okT at h
    rw [Bool.and_eq_true, Bool.not_eq_true', decide_eq_true_eq] at h
    obtain ⟨h3, h4⟩ := en_inv h.2
    obtain ⟨a, b, c, d⟩ := an_inv (er := eT l) (us := us) h3 h.1 (hu he)
    have e : toldA l us = rA (kT l) (eT l) us (sT2 l) := by unfold toldA; rw [if_pos he]
    have he0 : (toldA l us).er = 0 := by rw [hke.2]; unfold eT; rw [he]; rfl
    refine ⟨?_, ?_, by rw [e]; exact d, hke⟩
    · unfold telB; rw [if_pos hK, if_pos he0, e]; exact c
    · have h5 := hhd (sT2 l) (by_inv (s := sT1 l) (show (tkS 1 (sT1 l)).2 = 0 from a)).1 rfl rfl a
      unfold telL
      rw [if_pos he0, hke.1, hke.2, hn, hn]
      have h6 := an_app (a := toldA l us) (l := [u8 (byV (l, 0)), u8 (byV (sT1 l))]) (r := []) (by rw [e]; exact c)
      rw [List.append_nil] at h6
      rw [h6]
      rw [h4] at b
      conv => rhs; rw [h5, b]
      rw [e]; rfl
  · rw [if_neg he] at h
    unfold okT at h
    rw [Bool.and_eq_true, decide_eq_true_eq] at h
    obtain ⟨h3, h4⟩ := en_inv h.2
    have e : toldA l us = zA (kT l) (eT l) := by unfold toldA; rw [if_neg he]
    have he0 : ¬ (toldA l us).er = 0 := by rw [hke.2]; show ¬ (byV (sT1 l) : Int) = 0; omega
    refine ⟨?_, ?_, by rw [e]; exact ⟨zF_wf, zU_wf, nolt rfl, nolt rfl⟩, hke⟩
    · unfold telB; rw [if_pos hK, if_neg he0]
    · have h5 := hhd (sT2 l) (by_inv (s := sT1 l) (show (tkS 1 (sT1 l)).2 = 0 from h3)).1 rfl rfl h3
      unfold telL
      rw [if_neg he0, hke.1, hke.2, hn, hn]
      rw [h4] at h5; exact h5.symm
/-- an answer's bytes, and more behind: what is told of them -/
theorem told_fwd {a : An} (h : telB a = false) (hw : wfA a) (r : List UInt8) : toldO (telL a ++ r) = decide (r = []) ∧ kT (telL a ++ r) = a.k ∧ eT (telL a ++ r) = a.er := by
  unfold telB at h
  by_cases hK : telK a
  · rw [if_pos hK] at h
    obtain ⟨⟨k0, k1⟩, e0, e1⟩ := hK
    obtain ⟨X, hX, hz⟩ : ∃ X, telL a ++ r = u8 a.k.toNat :: (u8 a.er.toNat :: X) ∧ ((a.er = 0 → X = anX a r) ∧ (a.er ≠ 0 → X = r)) := by
      unfold telL
      by_cases he : a.er = 0
      · rw [if_pos he] at h ⊢
        exact ⟨anX a r, an_app h, fun _ => rfl, fun h => absurd he h⟩
      · rw [if_neg he]; exact ⟨r, rfl, fun h => absurd h he, fun _ => rfl⟩
    rw [hX]
    have hk : byV (u8 a.k.toNat :: (u8 a.er.toNat :: X), 0) = a.k.toNat := byV_u8 (by omega)
    have h1 : sT1 (u8 a.k.toNat :: (u8 a.er.toNat :: X)) = (u8 a.er.toNat :: X, 0) := tkS_u8
    have he' : byV (sT1 (u8 a.k.toNat :: (u8 a.er.toNat :: X))) = a.er.toNat := by rw [h1]; exact byV_u8 (by omega)
    have h2 : sT2 (u8 a.k.toNat :: (u8 a.er.toNat :: X)) = (X, 0) := by unfold sT2; rw [h1]; exact tkS_u8
    have hkT : kT (u8 a.k.toNat :: (u8 a.er.toNat :: X)) = a.k := by unfold kT; rw [hk]; omega
    have heT : eT (u8 a.k.toNat :: (u8 a.er.toNat :: X)) = a.er := by unfold eT; rw [he']; omega
    have hen : (enV (r, 0) = 0) ↔ r = [] := ⟨fun h => (en_inv h).2, fun h => by subst h; rfl⟩
    refine ⟨?_, hkT, heT⟩
    unfold toldO
    rw [hk, he', h2, hkT, decide_eq_false (by omega), Bool.not_false, Bool.true_and]
    by_cases he : a.er = 0
    · rw [if_pos (by omega), hz.1 he]
      rw [if_pos he] at h
      obtain ⟨f1, f2⟩ := an_fwd h hw r
      unfold okT
      rw [f1, f2, Bool.not_false, Bool.true_and, decide_eq_decide]; exact hen
    · rw [if_neg (by omega), hz.2 he]
      unfold okT
      rw [Bool.not_false, Bool.true_and, decide_eq_decide]; exact hen
  · rw [if_neg hK] at h; cases h
/-- a beginning that isn't all of it -/
theorem told_less {a : An} (h : telB a = false) (hw : wfA a) {k : Nat} (hk : k < (telL a).length) : toldO ((telL a).take k) = false := by
  rcases bool_or (toldO ((telL a).take k)) with h1 | h1
  · obtain ⟨b1, b2, b3, _⟩ := told_inv (us := List.replicate (cV 1024 (sT2 ((telL a).take k))) undef) h1 (fun _ _ => by rw [List.length_replicate])
    have h2 := (told_fwd b1 b3 ((telL a).drop k)).1
    rw [b2, List.take_append_drop] at h2
    have h3 := (told_fwd h hw []).1
    rw [List.append_nil] at h3
    rw [h3] at h2
    have h4 : (telL a).drop k = [] := by simpa using h2
    have := congrArg List.length h4
    rw [List.length_drop] at this
    simp at this; omega
  · exact h1
theorem un_len (s : RSt) : (rUn s).ss.length ≤ 256 ∧ (rUn s).us.length ≤ 256 := ⟨take_len s, by show (sumsV _ _).length ≤ 256; rw [sumsV_len]; exact cV_le⟩
theorem rA_len {k er : Int} {us : List Value} {s : RSt} (hu : k = 7 → cV 1024 s = us.length) : lenA (rA k er us s) := by
  have z : ([] : List Nat).length ≤ 1000000 := by decide
  have z2 : ([] : List En).length ≤ 1000000 := by decide
  have z3 : ([] : List Mrk).length ≤ 1000000 := by decide
  have sm : ∀ t u, (sumsV (cV 256 t) u).length ≤ 1000000 := fun t u => by rw [sumsV_len]; exact Nat.le_trans cV_le (by decide)
  have un := fun t => Nat.le_trans (un_len t).1 (show 256 ≤ 1000000 by decide)
  have uu := fun t => Nat.le_trans (un_len t).2 (show 256 ≤ 1000000 by decide)
  have tk := fun t => Nat.le_trans (take_len t) (show 256 ≤ 1000000 by decide)
  by_cases h1 : k = 1
  · rw [(r_1 h1).1]; exact ⟨z, z, z, z, z2, z3, z⟩
  by_cases h2 : k = 10
  · rw [(r_10 h2).1]; exact ⟨z, z, z, z, z2, z3, z⟩
  by_cases h3 : k = 6
  · rw [(r_6 h3).1]; exact ⟨tk _, sm _ _, un _, uu _, z2, z3, z⟩
  by_cases h4 : k = 7
  · rw [(r_7 h4).1]; exact ⟨z, z, z, z, by show (ensV us _).length ≤ _; rw [ensV_len, ← hu h4]; exact Nat.le_trans cV_le (by decide), z3, z⟩
  by_cases h5 : k = 8
  · rw [(r_8 h5).1]; exact ⟨z, z, z, z, z2, by show (mksV _ _).length ≤ _; rw [mksV_len]; exact Nat.le_trans cV_le (by decide), z⟩
  by_cases h6 : k = 9
  · rw [(r_9 h6).1]; exact ⟨z, z, z, z, z2, z3, z⟩
  by_cases h7 : k = 11
  · rw [(r_11 h7).1]; exact ⟨z, z, un _, uu _, z2, z3, z⟩
  by_cases h8 : k = 12
  · rw [(r_12 h8).1]; exact ⟨z, z, z, z, z2, z3, sm _ _⟩
  · rw [(r_o ⟨h1, h2, h3, h4, h5, h6, h7, h8⟩).1]; exact ⟨z, z, z, z, z2, z3, z⟩
theorem told_len {l : List UInt8} {us : List Value} (hu : byV (sT1 l) = 0 → kT l = 7 → cV 1024 (sT2 l) = us.length) : lenA (toldA l us) := by
  unfold toldA
  split
  · rename_i h; exact rA_len (hu h)
  · exact ⟨Nat.zero_le _, Nat.zero_le _, Nat.zero_le _, Nat.zero_le _, Nat.zero_le _, Nat.zero_le _, Nat.zero_le _⟩
theorem tell_c {a : An} {v : Av} (hle : lenA a) (w : World) (h : AnR a v w) : Calls Try.prog 24 #[.agg (anF a v)] w fun e w' => (telB a = true ∧ Ret (.tuple #[.slice none 0 0, .int .i64 2]) w w' e) ∨ (telB a = false ∧ ∃ u, e = .returned (.tuple #[u, .int .i64 0]) ∧ SH [] w w' [.o u (telL a)]) := by
  by_cases hk : telK a
  · by_cases he : a.er = 0
    · by_cases h1 : a.k = 1
      · exact tell_1 hk he h1 hle w h
      by_cases h2 : a.k = 10
      · exact tell_10 hk he h2 hle w h
      by_cases h3 : a.k = 6
      · exact tell_6 hk he h3 hle w h
      by_cases h4 : a.k = 7
      · exact tell_7 hk he h4 hle w h
      by_cases h5 : a.k = 8
      · exact tell_8 hk he h5 hle w h
      by_cases h6 : a.k = 9
      · exact tell_9 hk he h6 hle w h
      by_cases h7 : a.k = 11
      · exact tell_11 hk he h7 hle w h
      by_cases h8 : a.k = 12
      · exact tell_12 hk he h8 hle w h
      exact tell_o hk he ⟨h1, h2, h3, h4, h5, h6, h7, h8⟩ hle w h
    · exact tell_e hk he hle w h
  · refine (tell_none hk hle w h).mono fun e w' hr => .inl ⟨?_, hr⟩
    unfold telB; rw [if_neg hk]
theorem tell_yes {a : An} {v : Av} (hb : telB a = false) (hle : lenA a) (w : World) (h : AnR a v w) : Calls Try.prog 24 #[.agg (anF a v)] w fun e w' => ∃ u, e = .returned (.tuple #[u, .int .i64 0]) ∧ SH [] w w' [.o u (telL a)] :=
  (tell_c hle w h).mono fun e w' h => h.elim (fun h => by rw [hb] at h; cases h.1) (fun h => h.2)
theorem tell_no {a : An} {v : Av} (hb : telB a = true) (hle : lenA a) (w : World) (h : AnR a v w) : Calls Try.prog 24 #[.agg (anF a v)] w fun e w' => Ret (.tuple #[.slice none 0 0, .int .i64 2]) w w' e :=
  (tell_c hle w h).mono fun e w' h => h.elim (fun h => h.2) (fun h => by rw [hb] at h; cases h.1)
abbrev TX (l : List UInt8) : Type := { x : Av × List Value // byV (sT1 l) = 0 → kT l = 7 → cV 1024 (sT2 l) = x.2.length }
theorem told_yes {u : Value} {l : List UInt8} (ho : toldO l = true) (hl : l.length ≤ 1000000) (w : World) (hs : Sl w u l) : Calls Try.prog 25 #[u] w fun e w' => ∃ x : TX l, e = .returned (.tuple #[.agg (anF (toldA l x.1.2) x.1.1), .int .i64 0]) ∧ SH [] w w' [anT (toldA l x.1.2) x.1.1] ∧ ∀ y ∈ [anT (toldA l x.1.2) x.1.1], y.mv = false → ∀ k ∈ y.foot, w.heap.size ≤ k :=
  (told_c hl w hs).mono fun e w' h => h.elim (fun h => by rw [ho] at h; cases h.1) (fun ⟨_, x, h1, h2, h3, h4⟩ => ⟨⟨x, h4⟩, h1, h2, fun y hy _ => by rw [List.mem_singleton.1 hy]; exact h3⟩)
theorem told_no {u : Value} {l : List UInt8} (ho : toldO l = false) (hl : l.length ≤ 1000000) (w : World) (hs : Sl w u l) : Calls Try.prog 25 #[u] w fun e w' => Ret (.tuple #[.agg (anF (zA 0 0) zV), .int .i64 2]) w w' e :=
  (told_c hl w hs).mono fun e w' h => h.elim (fun h => h.2) (fun h => by rw [ho] at h; cases h.1)
end Go.Proofs.Ytlbgelbhhibikaa.Ww
