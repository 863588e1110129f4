/- The order of the curve's group: 8 LL times any point is the neutral one (points are counted: at most two for each y). No conditions. What is proved is taken, for every seed and text that has a point (VrfBack's plain law). No conditions. -/
import Derived.Test.YtefpoollmbmkfaaDoorJ26
set_option linter.unusedSimpArgs false
set_option linter.unusedVariables false
namespace Go.Proofs.YtefpoollmbmkfaaDoor
open Sc (LL)
set_option maxRecDepth 100000
def sumL : List Pr → Pr
  | [] => p0
  | a :: l => padd a (sumL l)
theorem sumL_on : ∀ {l : List Pr}, (∀ a ∈ l, OnC a) → OnC (sumL l)
  | [], _ => p0_on
  | a :: l, h => padd_on (h a (List.mem_cons_self ..)) (sumL_on fun b hb => h b (List.mem_cons_of_mem _ hb))
theorem sumL_perm {l m : List Pr} (h : l.Perm m) : (∀ a ∈ l, OnC a) → sumL l = sumL m := by
  induction h with
  | nil => intro _; rfl
  | cons a _ ih => intro ho; exact congrArg (padd a) (ih fun b hb => ho b (List.mem_cons_of_mem _ hb))
  | swap a b l =>
    intro ho
    show padd b (padd a (sumL l)) = padd a (padd b (sumL l))
    have hb := ho b (by simp)
    have ha := ho a (by simp)
    have hl : OnC (sumL l) := sumL_on fun c hc => ho c (by simp [hc])
    rw [← padd_assoc hb ha hl, ← padd_assoc ha hb hl, padd_comm b a]
  | trans h1 _ i1 i2 => intro ho; exact (i1 ho).trans (i2 fun a ha => ho a (h1.mem_iff.2 ha))
theorem sumL_map {q : Pr} (hq : OnC q) : ∀ {l : List Pr}, (∀ a ∈ l, OnC a) → sumL (l.map (padd q)) = padd (pm q l.length) (sumL l)
  | [], _ => by
    show p0 = padd p0 p0
    rw [padd_p0]
  | a :: l, h => by
    have ha := h a (List.mem_cons_self ..)
    have hl := fun b hb => h b (List.mem_cons_of_mem a hb)
    have hs := sumL_on hl
    have hn := pm_on hq l.length
    show padd (padd q a) (sumL (l.map (padd q))) = padd (pm q (l.length + 1)) (padd a (sumL l))
    rw [sumL_map hq hl, pm_add hq, pm_one]
    rw [padd_assoc hq ha (padd_on hn hs), ← padd_assoc ha hn hs, padd_comm a (pm q l.length), padd_assoc hn ha hs, ← padd_assoc hq hn (padd_on ha hs), padd_comm q (pm q l.length)]
theorem lagrange {L : List Pr} (hN : L.Nodup) (hL : ∀ a, a ∈ L ↔ OnC a) {q : Pr} (hq : OnC q) : pm q L.length = p0 := by
  have ho : ∀ a ∈ L, OnC a := fun a h => (hL a).1 h
  have hinj : ∀ a b, OnC a → OnC b → padd q a = padd q b → a = b := fun a b ha hb h => by rw [← padd_cancel hq ha, h, padd_cancel hq hb]
  have hm : (L.map (padd q)).Nodup := List.pairwise_map.2 (hN.imp_of_mem fun ha hb hne e => hne (hinj _ _ (ho _ ha) (ho _ hb) e))
  have hp : L.Perm (L.map (padd q)) := (List.perm_ext_iff_of_nodup hN hm).2 fun a => ⟨fun ha => List.mem_map.2 ⟨padd a (pneg q), (hL _).2 (padd_on (ho a ha) (pneg_on hq)), by rw [← padd_assoc hq (ho a ha) (pneg_on hq), padd_cancel hq (ho a ha)]⟩, fun ha => by
    obtain ⟨b, hb, rfl⟩ := List.mem_map.1 ha
    exact (hL _).2 (padd_on hq (ho b hb))⟩
  have e1 := sumL_perm hp ho
  rw [sumL_map hq ho] at e1
  have hs := sumL_on ho
  have hn := pm_on hq L.length
  have e3 : padd (padd (pm q L.length) (sumL L)) (pneg (sumL L)) = pm q L.length := by rw [padd_assoc hn hs (pneg_on hs), padd_neg hs, padd_p0]
  rw [← e1, padd_neg hs] at e3
  exact e3.symm
theorem dOk_lt {V : Nat} (h : dOk V = true) : V % 2 ^ 255 < PP := by
  unfold dOk at h
  simp only [Bool.and_eq_true, decide_eq_true_eq] at h
  exact h.1.1
theorem all_pts : ∃ L : List Pr, L.Nodup ∧ (∀ a, a ∈ L ↔ OnC a) ∧ L.length ≤ PP + PP := by
  obtain ⟨n, hn⟩ : ∃ n, n = 2 ^ 256 := ⟨_, rfl⟩
  obtain ⟨m, hm⟩ : ∃ m, m = PP := ⟨_, rfl⟩
  obtain ⟨l, hl'⟩ : ∃ l, l = (List.range n).filter dOk := ⟨_, rfl⟩
  have hl : ∀ V, V ∈ l ↔ V < n ∧ dOk V = true := fun V => by rw [hl', List.mem_filter, List.mem_range]
  have hnd : l.Nodup := by rw [hl']; exact List.Pairwise.filter _ List.nodup_range
  have he : ∀ V ∈ l, enc (dPt V) = V := fun V h => enc_dec (hn ▸ ((hl V).1 h).1) ((hl V).1 h).2
  refine ⟨l.map dPt, List.pairwise_map.2 (hnd.imp_of_mem fun ha hb hne e => hne (by rw [← he _ ha, ← he _ hb, e])), fun a => ⟨fun h => ?_, fun h => ?_⟩, ?_⟩
  · obtain ⟨V, hV, rfl⟩ := List.mem_map.1 h
    exact dPt_on ((hl V).1 hV).2
  · exact List.mem_map.2 ⟨enc a, (hl _).2 ⟨hn ▸ enc_lt a, (dec_enc h).1⟩, (dec_enc h).2⟩
  · rw [List.length_map, ← hm]
    have hsub : l ⊆ List.range m ++ (List.range m).map (fun j => 2 ^ 255 + j) := fun V hV => by
      obtain ⟨h1, h2⟩ := (hl V).1 hV
      have h3 := dOk_lt h2
      rw [hn] at h1
      rw [List.mem_append, List.mem_range, List.mem_map]
      by_cases h4 : V < 2 ^ 255
      · rw [Nat.mod_eq_of_lt h4] at h3
        exact Or.inl (hm ▸ h3)
      · have e : V % 2 ^ 255 = V - 2 ^ 255 := by omega
        rw [e] at h3
        exact Or.inr ⟨V - 2 ^ 255, List.mem_range.2 (hm ▸ h3), by omega⟩
    have h5 := hnd.length_le_of_subset hsub
    rw [List.length_append, List.length_map, List.length_range] at h5
    exact h5
theorem pm_gcd {q : Pr} (hq : OnC q) (a b : Nat) : pm q a = p0 → pm q b = p0 → pm q (Nat.gcd a b) = p0 := by
  induction a, b using Nat.gcd.induction with
  | H0 b => intro _ h; rw [Nat.gcd_zero_left]; exact h
  | H1 a b ha ih =>
    intro h1 h2
    rw [Nat.gcd_rec]
    refine ih ?_ h1
    have e : pm q b = padd (pm q (a * (b / a))) (pm q (b % a)) := by rw [← pm_add hq, Nat.div_add_mod]
    rw [e, pm_mul hq, h1, pm_p0, p0_padd] at h2
    exact h2
theorem prm_2 : Prm 2 := prm_trial 2 (by decide +kernel)
theorem ord_dvd {q : Pr} {l n : Nat} (hl : Prm l) (hq : OnC q) (h8 : pm q (8 * l) = p0) (h2 : ¬ pm q (4 * l) = p0) (hL : ¬ pm q 8 = p0) (hn : pm q n = p0) : 8 * l ∣ n := by
  have hg := pm_gcd hq _ _ h8 hn
  obtain ⟨k, hk⟩ := Nat.gcd_dvd_left (8 * l) n
  have hd := Nat.gcd_dvd_right (8 * l) n
  generalize Nat.gcd (8 * l) n = g at hg hk hd
  by_cases hk2 : 2 ∣ k
  · obtain ⟨m, rfl⟩ := hk2
    have e : 4 * l = g * m := by
      have : g * (2 * m) = 2 * (g * m) := by rw [Nat.mul_left_comm]
      omega
    exact absurd (by rw [e, pm_mul hq, hg, pm_p0]) h2
  · have hc : Nat.Coprime k 8 := ((prm_2.cop hk2).symm.pow_right 3 : Nat.Coprime k (2 ^ 3))
    have hkl : k ∣ l := hc.dvd_of_dvd_mul_left ⟨g, by rw [hk, Nat.mul_comm]⟩
    rcases hl.2 k hkl with h | h
    · rw [h, Nat.mul_one] at hk; rw [hk]; exact hd
    · subst h
      have hk0 : 0 < k := by have := hl.1; omega
      have e : g = 8 := (Nat.eq_of_mul_eq_mul_right hk0 hk).symm
      rw [e] at hg
      exact absurd hg hL

theorem prL0 : Prm 409477 := (gen_B (n := 409477) (g := 2) [2, 2, 3, 34123] (prms_of 186 (by decide +kernel)) (by decide +kernel)).prm
theorem prL1 : Prm 14741173 := (gen_B (n := 14741173) (g := 2) ([2, 2, 3, 3] ++ [409477]) (prms_app (prms_of 3 (by decide +kernel)) (prms_one prL0)) (by decide +kernel)).prm
theorem prL2 : Prm 58964693 := (gen_B (n := 58964693) (g := 2) ([2, 2] ++ [14741173]) (prms_app (prms_of 3 (by decide +kernel)) (prms_one prL1)) (by decide +kernel)).prm
theorem prL3 : Prm 3044861653679985063343 := (gen_B (n := 3044861653679985063343) (g := 5) [2, 3, 11, 30703, 82163, 132667, 137849] (prms_of 373 (by decide +kernel)) (by decide +kernel)).prm
theorem prL4 : Prm 198211423230930754013084525763697 := (gen_B (n := 198211423230930754013084525763697) (g := 5) ([2, 2, 2, 2, 3, 23] ++ ([58964693] ++ [3044861653679985063343])) (prms_app (prms_of 6 (by decide +kernel)) (prms_app (prms_one prL2) (prms_one prL3))) (by decide +kernel)).prm
theorem prL5 : Prm 292386187 := (gen_B (n := 292386187) (g := 2) [2, 3, 3, 3, 3, 307, 5879] (prms_of 78 (by decide +kernel)) (by decide +kernel)).prm
theorem prL6 : Prm 213441916511 := (gen_B (n := 213441916511) (g := 13) ([2, 5, 73] ++ [292386187]) (prms_app (prms_of 10 (by decide +kernel)) (prms_one prL5)) (by decide +kernel)).prm
theorem prL7 : Prm 531581 := (gen_B (n := 531581) (g := 2) [2, 2, 5, 7, 3797] (prms_of 63 (by decide +kernel)) (by decide +kernel)).prm
theorem prL8 : Prm 1224481 := (gen_B (n := 1224481) (g := 13) [2, 2, 2, 2, 2, 3, 5, 2551] (prms_of 52 (by decide +kernel)) (by decide +kernel)).prm
theorem prL9 : Prm 1257559732178653 := (gen_B (n := 1257559732178653) (g := 2) ([2, 2, 3, 7, 23] ++ ([531581] ++ [1224481])) (prms_app (prms_of 6 (by decide +kernel)) (prms_app (prms_one prL7) (prms_one prL8))) (by decide +kernel)).prm
theorem prL10 : Prm 4434155615661930479 := (gen_B (n := 4434155615661930479) (g := 17) ([2, 41, 43] ++ [1257559732178653]) (prms_app (prms_of 8 (by decide +kernel)) (prms_one prL9)) (by decide +kernel)).prm
theorem prL11 : Prm 172054593956031949258510691 := (gen_B (n := 172054593956031949258510691) (g := 2) ([2, 5, 1361, 2851] ++ [4434155615661930479]) (prms_app (prms_of 55 (by decide +kernel)) (prms_one prL10)) (by decide +kernel)).prm
theorem prL12 : Prm 19757330305831588566944191468367130476339 := (gen_B (n := 19757330305831588566944191468367130476339) (g := 2) ([2, 269] ++ ([213441916511] ++ [172054593956031949258510691])) (prms_app (prms_of 18 (by decide +kernel)) (prms_app (prms_one prL6) (prms_one prL11))) (by decide +kernel)).prm
theorem prL13 : Prm 276602624281642239937218680557139826668747 := (gen_B (n := 276602624281642239937218680557139826668747) (g := 2) ([2, 7] ++ [19757330305831588566944191468367130476339]) (prms_app (prms_of 4 (by decide +kernel)) (prms_one prL12)) (by decide +kernel)).prm
theorem prL14 : Prm 7237005577332262213973186563042994240857116359379907606001950938285454250989 := (gen_B (n := 7237005577332262213973186563042994240857116359379907606001950938285454250989) (g := 2) ([2, 2, 3, 11] ++ ([198211423230930754013084525763697] ++ [276602624281642239937218680557139826668747])) (prms_app (prms_of 5 (by decide +kernel)) (prms_app (prms_one prL4) (prms_one prL13))) (by decide +kernel)).prm
theorem prm_LL : Prm LL := prL14
def qQx : Nat := 47490639360184182837601875270316946735278442122217188244898328344323804759522
theorem qQ_x : qQx < PP := by decide
theorem qQ_on : OnC (fp qQx, fp 3) := by unfold OnC; decide +kernel
theorem q_8l : pm (fp qQx, fp 3) (8 * LL) = p0 := (tm_lit (x := q0x) (y := q0y) rfl qQ_x (by decide) qQ_on (by decide) (by decide +kernel)).trans q0_eq
theorem q_4l : ¬ pm (fp qQx, fp 3) (4 * LL) = p0 := ne_p0 (tm_lit (x := 0) (y := 57896044618658097711785492504343953926634992332820282019728792003956564819948) rfl qQ_x (by decide) qQ_on (by decide) (by decide +kernel)) (by decide +kernel)
theorem q_8 : ¬ pm (fp qQx, fp 3) 8 = p0 := ne_p0 (tm_lit (x := 16081880097752553219916424747350142352236522627972514630050036450282732939404) (y := 9677746192703328013283531742046342896310160271887462984216952246948724820864) rfl qQ_x (by decide) qQ_on (by decide) (by decide +kernel)) (by decide +kernel)
/-- the order of the group -/
theorem grp {a : Pr} (h : OnC a) : pm a (8 * LL) = p0 := by
  obtain ⟨L, hN, hL, hlen⟩ := all_pts
  obtain ⟨k, hk⟩ := ord_dvd prm_LL qQ_on q_8l q_4l q_8 (lagrange hN hL qQ_on)
  have hb : PP + PP < 8 * LL + 8 * LL := by decide +kernel
  have h0 : 0 < L.length := List.length_pos_of_mem ((hL p0).2 p0_on)
  have e := lagrange hN hL h
  rw [hk] at e hlen h0
  generalize 8 * LL = M at *
  have hk1 : k = 1 := by
    match k, hlen, h0 with
    | 0, _, h0 => exact absurd h0 (by simp)
    | 1, _, _ => rfl
    | k + 2, hlen, _ =>
      have : M * (k + 2) = M * k + (M + M) := by rw [Nat.mul_add]; omega
      omega
  rw [hk1, Nat.mul_one] at e
  exact e
theorem cand_LL {V c : Nat} {L : List UInt8} (h : candOk V L c = true) : pm (candP V L c) LL = p0 := by
  unfold candP
  rw [← pm_mul (dPt_on (candOk_iff.1 h).1)]
  exact grp (dPt_on (candOk_iff.1 h).1)
end Go.Proofs.YtefpoollmbmkfaaDoor

namespace Go.Proofs.YtefpoollmbmkfaaDoor
open Go.RowKit
open Sc (LL clampF)
attribute [local irreducible] hs
theorem clN_form (V : Nat) : ∃ m, clN V = 8 * m ∧ 0 < m ∧ m < LL := by
  have h0 : byt (clN V) 0 = clampF (byt V) 0 := byt_bval _ (clamp_ok V) 32 0 (by decide)
  have h1 : byt (clN V) 31 = clampF (byt V) 31 := byt_bval _ (clamp_ok V) 32 31 (by decide)
  have hl := clN_lt V
  have b0 := byt_ok V 0
  have b1 := byt_ok V 31
  unfold clampF at h0 h1
  rw [if_pos rfl] at h0
  rw [if_neg (by decide), if_pos rfl] at h1
  generalize byt V 0 = x at *
  generalize byt V 31 = y at *
  generalize clN V = n at *
  have e0 : ((n % 256 : Nat) : Int) = x - x % 8 := by rw [← h0]; unfold byt; rw [Nat.mul_zero, Nat.pow_zero, Nat.div_one]
  have e1 : ((n / 2 ^ 248 % 256 : Nat) : Int) = y % 64 + 64 := by rw [← h1]; rfl
  have hLL : 2 ^ 252 < LL := by decide +kernel
  refine ⟨n / 8, by omega, by omega, by omega⟩
theorem ord_BP {n : Nat} (h : pm BP n = p0) : LL ∣ n := by
  have hg := pm_gcd BP_on _ _ pm_LL h
  rcases prm_LL.2 _ (Nat.gcd_dvd_left LL n) with e | e
  · rw [e, pm_one] at hg
    exact absurd hg (ne_p0 (x := BX) (y := BY) rfl (by decide +kernel))
  · have := Nat.gcd_dvd_right LL n
    rwa [e] at this
theorem key_kP (S : Nat) : dOk (kP S) = true ∧ ¬ pm (dPt (kP S)) 8 = p0 := by
  have d := dec_enc (pm_on BP_on (kN S))
  refine ⟨d.1, fun h => ?_⟩
  rw [show dPt (kP S) = pm BP (kN S) from d.2, ← pm_mul BP_on] at h
  have h2 := ord_BP h
  obtain ⟨m, e, m0, ml⟩ := clN_form (lo (hs (lb 32 S)))
  rw [show kN S = 8 * m from e, show 8 * m * 8 = 64 * m by omega] at h2
  have h3 : LL ∣ m := Nat.Coprime.dvd_of_dvd_mul_left (by decide +kernel : Nat.Coprime LL 64) h2
  exact absurd (Nat.le_of_dvd m0 h3) (Nat.not_le.2 ml)
theorem back_all {S : Nat} {L : List UInt8} (h : (vprv S L).2 = 0) : (vchk (kP S) L (vprv S L).1).2 = 0 ∧ (vsm (vprv S L).1).2 = 0 ∧ (vchk (kP S) L (vprv S L).1).1 = (vsm (vprv S L).1).1 := by
  cases hv : vpt (kP S) L with
  | none => rw [vprv_none hv] at h; cases h
  | some c =>
    rw [vprv_some hv]
    have hok := (vpt_some hv).2.1
    have hon := candP_on hok
    obtain ⟨e1, -, e3⟩ := vPr_parts (S := S) hon
    have k1 : dOk (pG (vPr S (candP (kP S) L c))) = true := by rw [e1]; exact (dec_enc (pm_on hon _)).1
    have k2 : pN (vPr S (candP (kP S) L c)) < LL := by rw [e3]; exact vN_lt _ _
    have hc := (vchk_pt (key_kP S).1 (key_kP S).2 k1 k2 hv).1 (prove_back hon (cand_LL hok))
    have hsm : vsm (vPr S (candP (kP S) L c)) = (vSum (vPr S (candP (kP S) L c)), 0) := by unfold vsm; rw [if_pos k1]
    show (vchk (kP S) L (vPr S (candP (kP S) L c))).2 = 0 ∧ (vsm (vPr S (candP (kP S) L c))).2 = 0 ∧ (vchk (kP S) L (vPr S (candP (kP S) L c))).1 = (vsm (vPr S (candP (kP S) L c))).1
    rw [hc, hsm]
    exact ⟨rfl, rfl, rfl⟩
theorem vprv_e (S : Nat) (L : List UInt8) : (vprv S L).2 = 0 ∨ (vprv S L).2 = 15 := by
  cases hv : vpt (kP S) L with
  | none => rw [vprv_none hv]; exact Or.inr rfl
  | some c => rw [vprv_some hv]; exact Or.inl rfl
end Go.Proofs.YtefpoollmbmkfaaDoor
