/- The order of the curve's group: 8 LL times any point is the neutral one (points are counted: at most two for each y). No conditions. What is proved is taken, for every seed and text that has a point (VrfBack's plain law). No conditions. -/
import Derived.Test.YtefpoollmbmkfaaDoorVw
import Derived.Test.YtefpoollmbmkfaaDoorVfH
set_option linter.unusedSimpArgs false
set_option linter.unusedVariables false
namespace Go.Proofs.YtefpoollmbmkfaaDoor
open Sc (LL)
set_option maxRecDepth 100000
def q2u : List Pr → Pr
  | [] => p0
  | a :: l => u5 a (q2u l)
theorem q3x : ∀ {l : List Pr}, (∀ a ∈ l, s8 a) → s8 (q2u l)
  | [], _ => q9d
  | a :: l, h => V8 (h a (List.mem_cons_self ..)) (q3x fun b hb => h b (List.mem_cons_of_mem _ hb))
theorem y7f {l m : List Pr} (h : l.Perm m) : (∀ a ∈ l, s8 a) → q2u l = q2u m := by
  induction h with
  | nil => intro _; rfl
  | cons a _ ih => intro ho; exact congrArg (u5 a) (ih fun b hb => ho b (List.mem_cons_of_mem _ hb))
  | swap a b l =>
    intro ho
    show u5 b (u5 a (q2u l)) = u5 a (u5 b (q2u l))
    have hb := ho b (by simp)
    have ha := ho a (by simp)
    have hl : s8 (q2u l) := q3x fun c hc => ho c (by simp [hc])
    rw [← o8 hb ha hl, ← o8 ha hb hl, F3 b a]
  | trans h1 _ i1 i2 => intro ho; exact (i1 ho).trans (i2 fun a ha => ho a (h1.mem_iff.2 ha))
theorem y0a {q : Pr} (hq : s8 q) : ∀ {l : List Pr}, (∀ a ∈ l, s8 a) → q2u (l.map (u5 q)) = u5 (pm q l.length) (q2u l)
  | [], _ => by
    show p0 = u5 p0 p0
    rw [q1j]
  | a :: l, h => by
    have ha := h a (List.mem_cons_self ..)
    have hl := fun b hb => h b (List.mem_cons_of_mem a hb)
    have hs := q3x hl
    have hn := J4 hq l.length
    show u5 (u5 q a) (q2u (l.map (u5 q))) = u5 (pm q (l.length + 1)) (u5 a (q2u l))
    rw [y0a hq hl, q0n hq, y0m]
    rw [o8 hq ha (V8 hn hs), ← o8 ha hn hs, F3 a (pm q l.length), o8 hn ha hs, ← o8 hq hn (V8 ha hs), F3 q (pm q l.length)]
theorem y0b {L : List Pr} (hN : L.Nodup) (hL : ∀ a, a ∈ L ↔ s8 a) {q : Pr} (hq : s8 q) : pm q L.length = p0 := by
  have ho : ∀ a ∈ L, s8 a := fun a h => (hL a).1 h
  have hinj : ∀ a b, s8 a → s8 b → u5 q a = u5 q b → a = b := fun a b ha hb h => by rw [← S1 hq ha, h, S1 hq hb]
  have hm : (L.map (u5 q)).Nodup := List.pairwise_map.2 (hN.imp_of_mem fun ha hb hne e => hne (hinj _ _ (ho _ ha) (ho _ hb) e))
  have hp : L.Perm (L.map (u5 q)) := (List.perm_ext_iff_of_nodup hN hm).2 fun a => ⟨fun ha => List.mem_map.2 ⟨u5 a (G1 q), (hL _).2 (V8 (ho a ha) (I9 hq)), by rw [← o8 hq (ho a ha) (I9 hq), S1 hq (ho a ha)]⟩, fun ha => by
    obtain ⟨b, hb, rfl⟩ := List.mem_map.1 ha
    exact (hL _).2 (V8 hq (ho b hb))⟩
  have e1 := y7f hp ho
  rw [y0a hq ho] at e1
  have hs := q3x ho
  have hn := J4 hq L.length
  have e3 : u5 (u5 (pm q L.length) (q2u L)) (G1 (q2u L)) = pm q L.length := by rw [o8 hn hs (I9 hs), q1i hs, q1j]
  rw [← e1, q1i hs] at e3
  exact e3.symm
theorem g3b {V : Nat} (h : G9 V = true) : V % 2 ^ 255 < PP := by
  unfold G9 at h
  simp only [Bool.and_eq_true, decide_eq_true_eq] at h
  exact h.1.1
theorem j6u : ∃ L : List Pr, L.Nodup ∧ (∀ a, a ∈ L ↔ s8 a) ∧ L.length ≤ PP + PP := by
  obtain ⟨n, hn⟩ : ∃ n, n = 2 ^ 256 := ⟨_, rfl⟩
  obtain ⟨m, hm⟩ : ∃ m, m = PP := ⟨_, rfl⟩
  obtain ⟨l, hl'⟩ : ∃ l, l = (List.range n).filter G9 := ⟨_, rfl⟩
  have hl : ∀ V, V ∈ l ↔ V < n ∧ G9 V = true := fun V => by rw [hl', List.mem_filter, List.mem_range]
  have hnd : l.Nodup := by rw [hl']; exact List.Pairwise.filter _ List.nodup_range
  have he : ∀ V ∈ l, t6 (B1 V) = V := fun V h => j4g (hn ▸ ((hl V).1 h).1) ((hl V).1 h).2
  refine ⟨l.map B1, List.pairwise_map.2 (hnd.imp_of_mem fun ha hb hne e => hne (by rw [← he _ ha, ← he _ hb, e])), fun a => ⟨fun h => ?_, fun h => ?_⟩, ?_⟩
  · obtain ⟨V, hV, rfl⟩ := List.mem_map.1 h
    exact q4j ((hl V).1 hV).2
  · exact List.mem_map.2 ⟨t6 a, (hl _).2 ⟨hn ▸ B4 a, (Z8 h).1⟩, (Z8 h).2⟩
  · rw [List.length_map, ← hm]
    have hsub : l ⊆ List.range m ++ (List.range m).map (fun j => 2 ^ 255 + j) := fun V hV => by
      obtain ⟨h1, h2⟩ := (hl V).1 hV
      have h3 := g3b h2
      rw [hn] at h1
      rw [List.mem_append, List.mem_range, List.mem_map]
      by_cases h4 : V < 2 ^ 255
      · rw [Nat.mod_eq_of_lt h4] at h3
        exact Or.inl (hm ▸ h3)
      · have e : V % 2 ^ 255 = V - 2 ^ 255 := by omega
        rw [e] at h3
        exact Or.inr ⟨V - 2 ^ 255, List.mem_range.2 (hm ▸ h3), by omega⟩
    have h5 := hnd.length_le_of_subset hsub
    rw [List.length_append, List.length_map, List.length_range] at h5
    exact h5
theorem j2x {q : Pr} (hq : s8 q) (a b : Nat) : pm q a = p0 → pm q b = p0 → pm q (Nat.gcd a b) = p0 := by
  induction a, b using Nat.gcd.induction with
  | H0 b => intro _ h; rw [Nat.gcd_zero_left]; exact h
  | H1 a b ha ih =>
    intro h1 h2
    rw [Nat.gcd_rec]
    refine ih ?_ h1
    have e : pm q b = u5 (pm q (a * (b / a))) (pm q (b % a)) := by rw [← q0n hq, Nat.div_add_mod]
    rw [e, q0o hq, h1, y2y, q1h] at h2
    exact h2
theorem prm_2 : Prm 2 := q5v 2 (by decide +kernel)
theorem j6v {q : Pr} {l n : Nat} (hl : Prm l) (hq : s8 q) (h8 : pm q (8 * l) = p0) (h2 : ¬ pm q (4 * l) = p0) (hL : ¬ pm q 8 = p0) (hn : pm q n = p0) : 8 * l ∣ n := by
  have hg := j2x hq _ _ h8 hn
  obtain ⟨k, hk⟩ := Nat.gcd_dvd_left (8 * l) n
  have hd := Nat.gcd_dvd_right (8 * l) n
  generalize Nat.gcd (8 * l) n = g at hg hk hd
  by_cases hk2 : 2 ∣ k
  · obtain ⟨m, rfl⟩ := hk2
    have e : 4 * l = g * m := by
      have : g * (2 * m) = 2 * (g * m) := by rw [Nat.mul_left_comm]
      omega
    exact absurd (by rw [e, q0o hq, hg, y2y]) h2
  · have hc : Nat.Coprime k 8 := ((prm_2.cop hk2).symm.pow_right 3 : Nat.Coprime k (2 ^ 3))
    have hkl : k ∣ l := hc.dvd_of_dvd_mul_left ⟨g, by rw [hk, Nat.mul_comm]⟩
    rcases hl.2 k hkl with h | h
    · rw [h, Nat.mul_one] at hk; rw [hk]; exact hd
    · subst h
      have hk0 : 0 < k := by have := hl.1; omega
      have e : g = 8 := (Nat.eq_of_mul_eq_mul_right hk0 hk).symm
      rw [e] at hg
      exact absurd hg hL

theorem g9j : Prm 409477 := (w9 (n := 409477) (g := 2) [2, 2, 3, 34123] (m9 186 (by decide +kernel)) (by decide +kernel)).prm
theorem g9k : Prm 14741173 := (w9 (n := 14741173) (g := 2) ([2, 2, 3, 3] ++ [409477]) (d5 (m9 3 (by decide +kernel)) (d6 g9j)) (by decide +kernel)).prm
theorem g9l : Prm 58964693 := (w9 (n := 58964693) (g := 2) ([2, 2] ++ [14741173]) (d5 (m9 3 (by decide +kernel)) (d6 g9k)) (by decide +kernel)).prm
theorem g9m : Prm 3044861653679985063343 := (w9 (n := 3044861653679985063343) (g := 5) [2, 3, 11, 30703, 82163, 132667, 137849] (m9 373 (by decide +kernel)) (by decide +kernel)).prm
theorem g9n : Prm 198211423230930754013084525763697 := (w9 (n := 198211423230930754013084525763697) (g := 5) ([2, 2, 2, 2, 3, 23] ++ ([58964693] ++ [3044861653679985063343])) (d5 (m9 6 (by decide +kernel)) (d5 (d6 g9l) (d6 g9m))) (by decide +kernel)).prm
theorem g9o : Prm 292386187 := (w9 (n := 292386187) (g := 2) [2, 3, 3, 3, 3, 307, 5879] (m9 78 (by decide +kernel)) (by decide +kernel)).prm
theorem g9p : Prm 213441916511 := (w9 (n := 213441916511) (g := 13) ([2, 5, 73] ++ [292386187]) (d5 (m9 10 (by decide +kernel)) (d6 g9o)) (by decide +kernel)).prm
theorem g9q : Prm 531581 := (w9 (n := 531581) (g := 2) [2, 2, 5, 7, 3797] (m9 63 (by decide +kernel)) (by decide +kernel)).prm
theorem g9r : Prm 1224481 := (w9 (n := 1224481) (g := 13) [2, 2, 2, 2, 2, 3, 5, 2551] (m9 52 (by decide +kernel)) (by decide +kernel)).prm
theorem g9s : Prm 1257559732178653 := (w9 (n := 1257559732178653) (g := 2) ([2, 2, 3, 7, 23] ++ ([531581] ++ [1224481])) (d5 (m9 6 (by decide +kernel)) (d5 (d6 g9q) (d6 g9r))) (by decide +kernel)).prm
theorem g6s : Prm 4434155615661930479 := (w9 (n := 4434155615661930479) (g := 17) ([2, 41, 43] ++ [1257559732178653]) (d5 (m9 8 (by decide +kernel)) (d6 g9s)) (by decide +kernel)).prm
theorem g6t : Prm 172054593956031949258510691 := (w9 (n := 172054593956031949258510691) (g := 2) ([2, 5, 1361, 2851] ++ [4434155615661930479]) (d5 (m9 55 (by decide +kernel)) (d6 g6s)) (by decide +kernel)).prm
theorem g6u : Prm 19757330305831588566944191468367130476339 := (w9 (n := 19757330305831588566944191468367130476339) (g := 2) ([2, 269] ++ ([213441916511] ++ [172054593956031949258510691])) (d5 (m9 18 (by decide +kernel)) (d5 (d6 g9p) (d6 g6t))) (by decide +kernel)).prm
theorem g6v : Prm 276602624281642239937218680557139826668747 := (w9 (n := 276602624281642239937218680557139826668747) (g := 2) ([2, 7] ++ [19757330305831588566944191468367130476339]) (d5 (m9 4 (by decide +kernel)) (d6 g6u)) (by decide +kernel)).prm
theorem g6w : Prm 7237005577332262213973186563042994240857116359379907606001950938285454250989 := (w9 (n := 7237005577332262213973186563042994240857116359379907606001950938285454250989) (g := 2) ([2, 2, 3, 11] ++ ([198211423230930754013084525763697] ++ [276602624281642239937218680557139826668747])) (d5 (m9 5 (by decide +kernel)) (d5 (d6 g9n) (d6 g6v))) (by decide +kernel)).prm
theorem prm_LL : Prm LL := g6w
def qQx : Nat := 47490639360184182837601875270316946735278442122217188244898328344323804759522
theorem g3c : qQx < PP := by decide
theorem y0c : s8 (fp qQx, fp 3) := by unfold s8; decide +kernel
theorem g9t : pm (fp qQx, fp 3) (8 * LL) = p0 := (V5 (x := q0x) (y := q0y) rfl g3c (by decide) y0c (by decide) (by decide +kernel)).trans j8r
theorem g9w : ¬ pm (fp qQx, fp 3) (4 * LL) = p0 := q6z (V5 (x := 0) (y := 57896044618658097711785492504343953926634992332820282019728792003956564819948) rfl g3c (by decide) y0c (by decide) (by decide +kernel)) (by decide +kernel)
theorem q_8 : ¬ pm (fp qQx, fp 3) 8 = p0 := q6z (V5 (x := 16081880097752553219916424747350142352236522627972514630050036450282732939404) (y := 9677746192703328013283531742046342896310160271887462984216952246948724820864) rfl g3c (by decide) y0c (by decide) (by decide +kernel)) (by decide +kernel)
theorem grp {a : Pr} (h : s8 a) : pm a (8 * LL) = p0 := by
  obtain ⟨L, hN, hL, hlen⟩ := j6u
  obtain ⟨k, hk⟩ := j6v prm_LL y0c g9t g9w q_8 (y0b hN hL y0c)
  have hb : PP + PP < 8 * LL + 8 * LL := by decide +kernel
  have h0 : 0 < L.length := List.length_pos_of_mem ((hL p0).2 q9d)
  have e := y0b hN hL h
  rw [hk] at e hlen h0
  generalize 8 * LL = M at *
  have hk1 : k = 1 := by
    match k, hlen, h0 with
    | 0, _, h0 => exact absurd h0 (by simp)
    | 1, _, _ => rfl
    | k + 2, hlen, _ =>
      have : M * (k + 2) = M * k + (M + M) := by rw [Nat.mul_add]; omega
      omega
  rw [hk1, Nat.mul_one] at e
  exact e
theorem j6w {V c : Nat} {L : List UInt8} (h : r9 V L c = true) : pm (a6 V L c) LL = p0 := by
  unfold a6
  rw [← q0o (q4j (candOk_iff.1 h).1)]
  exact grp (q4j (candOk_iff.1 h).1)
end Go.Proofs.YtefpoollmbmkfaaDoor

namespace Go.Proofs.YtefpoollmbmkfaaDoor
open Go.RowKit
open Sc (LL e9)
attribute [local irreducible] hs
theorem j2y (V : Nat) : ∃ m, clN V = 8 * m ∧ 0 < m ∧ m < LL := by
  have h0 : j0 (clN V) 0 = e9 (j0 V) 0 := S5 _ (q1s V) 32 0 (by decide)
  have h1 : j0 (clN V) 31 = e9 (j0 V) 31 := S5 _ (q1s V) 32 31 (by decide)
  have hl := y1a V
  have b0 := M9 V 0
  have b1 := M9 V 31
  unfold e9 at h0 h1
  rw [if_pos rfl] at h0
  rw [if_neg (by decide), if_pos rfl] at h1
  generalize j0 V 0 = x at *
  generalize j0 V 31 = y at *
  generalize clN V = n at *
  have e0 : ((n % 256 : Nat) : Int) = x - x % 8 := by rw [← h0]; unfold j0; rw [Nat.mul_zero, Nat.pow_zero, Nat.div_one]
  have e1 : ((n / 2 ^ 248 % 256 : Nat) : Int) = y % 64 + 64 := by rw [← h1]; rfl
  have hLL : 2 ^ 252 < LL := by decide +kernel
  refine ⟨n / 8, by omega, by omega, by omega⟩
theorem g3d {n : Nat} (h : pm BP n = p0) : LL ∣ n := by
  have hg := j2x O5 _ _ j0n h
  rcases prm_LL.2 _ (Nat.gcd_dvd_left LL n) with e | e
  · rw [e, y0m] at hg
    exact absurd hg (q6z (x := BX) (y := BY) rfl (by decide +kernel))
  · have := Nat.gcd_dvd_right LL n
    rwa [e] at this
theorem j2z (S : Nat) : G9 (kP S) = true ∧ ¬ pm (B1 (kP S)) 8 = p0 := by
  have d := Z8 (J4 O5 (kN S))
  refine ⟨d.1, fun h => ?_⟩
  rw [show B1 (kP S) = pm BP (kN S) from d.2, ← q0o O5] at h
  have h2 := g3d h
  obtain ⟨m, e, m0, ml⟩ := j2y (lo (hs (lb 32 S)))
  rw [show kN S = 8 * m from e, show 8 * m * 8 = 64 * m by omega] at h2
  have h3 : LL ∣ m := Nat.Coprime.dvd_of_dvd_mul_left (by decide +kernel : Nat.Coprime LL 64) h2
  exact absurd (Nat.le_of_dvd m0 h3) (Nat.not_le.2 ml)
theorem j2w {S : Nat} {L : List UInt8} (h : (H2 S L).2 = 0) : (C5 (kP S) L (H2 S L).1).2 = 0 ∧ (vsm (H2 S L).1).2 = 0 ∧ (C5 (kP S) L (H2 S L).1).1 = (vsm (H2 S L).1).1 := by
  cases hv : vpt (kP S) L with
  | none => rw [q0f hv] at h; cases h
  | some c =>
    rw [G7 hv]
    have hok := (q1x hv).2.1
    have hon := q5g hok
    obtain ⟨e1, -, e3⟩ := I3 (S := S) hon
    have k1 : G9 (pG (vPr S (a6 (kP S) L c))) = true := by rw [e1]; exact (Z8 (J4 hon _)).1
    have k2 : pN (vPr S (a6 (kP S) L c)) < LL := by rw [e3]; exact j2n _ _
    have hc := (q8m (j2z S).1 (j2z S).2 k1 k2 hv).1 (q5j hon (j6w hok))
    have hsm : vsm (vPr S (a6 (kP S) L c)) = (q8i (vPr S (a6 (kP S) L c)), 0) := by unfold vsm; rw [if_pos k1]
    show (C5 (kP S) L (vPr S (a6 (kP S) L c))).2 = 0 ∧ (vsm (vPr S (a6 (kP S) L c))).2 = 0 ∧ (C5 (kP S) L (vPr S (a6 (kP S) L c))).1 = (vsm (vPr S (a6 (kP S) L c))).1
    rw [hc, hsm]
    exact ⟨rfl, rfl, rfl⟩
theorem g3a (S : Nat) (L : List UInt8) : (H2 S L).2 = 0 ∨ (H2 S L).2 = 15 := by
  cases hv : vpt (kP S) L with
  | none => rw [q0f hv]; exact Or.inr rfl
  | some c => rw [G7 hv]; exact Or.inl rfl
end Go.Proofs.YtefpoollmbmkfaaDoor
