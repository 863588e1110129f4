/- The order of the curve's group: 8 LL times any point is the neutral one (points are counted: at most two for each y). No conditions. What is proved is taken, for every seed and text that has a point (VrfBack's plain law). No conditions. -/
import Derived.Test.YtefpoollmbmkfaaDoorVw
import Derived.Test.YtefpoollmbmkfaaDoorVfH
set_option linter.unusedSimpArgs false
set_option linter.unusedVariables false
namespace Go.Proofs.YtefpoollmbmkfaaDoor
open Sc (LL)
set_option maxRecDepth 100000
def J9h : List Pr → Pr
  | [] => p0
  | a :: l => V5 a (J9h l)
theorem Q0a : ∀ {l : List Pr}, (∀ a ∈ l, OnC a) → OnC (J9h l)
  | [], _ => Q42
  | a :: l, h => J3r (h a (List.mem_cons_self ..)) (Q0a fun b hb => h b (List.mem_cons_of_mem _ hb))
theorem Q9w {l m : List Pr} (h : l.Perm m) : (∀ a ∈ l, OnC a) → J9h l = J9h m := by
  induction h with
  | nil => intro _; rfl
  | cons a _ ih => intro ho; exact congrArg (V5 a) (ih fun b hb => ho b (List.mem_cons_of_mem _ hb))
  | swap a b l =>
    intro ho
    show V5 b (V5 a (J9h l)) = V5 a (V5 b (J9h l))
    have hb := ho b (by simp)
    have ha := ho a (by simp)
    have hl : OnC (J9h l) := Q0a fun c hc => ho c (by simp [hc])
    rw [← J1b hb ha hl, ← J1b ha hb hl, J5l b a]
  | trans h1 _ i1 i2 => intro ho; exact (i1 ho).trans (i2 fun a ha => ho a (h1.mem_iff.2 ha))
theorem Q4p {q : Pr} (hq : OnC q) : ∀ {l : List Pr}, (∀ a ∈ l, OnC a) → J9h (l.map (V5 q)) = V5 (pm q l.length) (J9h l)
  | [], _ => by
    show p0 = V5 p0 p0
    rw [J8g]
  | a :: l, h => by
    have ha := h a (List.mem_cons_self ..)
    have hl := fun b hb => h b (List.mem_cons_of_mem a hb)
    have hs := Q0a hl
    have hn := J2m hq l.length
    show V5 (V5 q a) (J9h (l.map (V5 q))) = V5 (pm q (l.length + 1)) (V5 a (J9h l))
    rw [Q4p hq hl, J7w hq, Q51]
    rw [J1b hq ha (J3r hn hs), ← J1b ha hn hs, J5l a (pm q l.length), J1b hn ha hs, ← J1b hq hn (J3r ha hs), J5l q (pm q l.length)]
theorem Q4q {L : List Pr} (hN : L.Nodup) (hL : ∀ a, a ∈ L ↔ OnC a) {q : Pr} (hq : OnC q) : pm q L.length = p0 := by
  have ho : ∀ a ∈ L, OnC a := fun a h => (hL a).1 h
  have hinj : ∀ a b, OnC a → OnC b → V5 q a = V5 q b → a = b := fun a b ha hb h => by rw [← J6v hq ha, h, J6v hq hb]
  have hm : (L.map (V5 q)).Nodup := List.pairwise_map.2 (hN.imp_of_mem fun ha hb hne e => hne (hinj _ _ (ho _ ha) (ho _ hb) e))
  have hp : L.Perm (L.map (V5 q)) := (List.perm_ext_iff_of_nodup hN hm).2 fun a => ⟨fun ha => List.mem_map.2 ⟨V5 a (J2t q), (hL _).2 (J3r (ho a ha) (J61 hq)), by rw [← J1b hq (ho a ha) (J61 hq), J6v hq (ho a ha)]⟩, fun ha => by
    obtain ⟨b, hb, rfl⟩ := List.mem_map.1 ha
    exact (hL _).2 (J3r hq (ho b hb))⟩
  have e1 := Q9w hp ho
  rw [Q4p hq ho] at e1
  have hs := Q0a ho
  have hn := J2m hq L.length
  have e3 : V5 (V5 (pm q L.length) (J9h L)) (J2t (J9h L)) = pm q L.length := by rw [J1b hn hs (J61 hs), J8f hs, J8g]
  rw [← e1, J8f hs] at e3
  exact e3.symm
theorem Y1c {V : Nat} (h : dOk V = true) : V % 2 ^ 255 < PP := by
  unfold dOk at h
  simp only [Bool.and_eq_true, decide_eq_true_eq] at h
  exact h.1.1
theorem Z6t : ∃ L : List Pr, L.Nodup ∧ (∀ a, a ∈ L ↔ OnC a) ∧ L.length ≤ PP + PP := by
  obtain ⟨n, hn⟩ : ∃ n, n = 2 ^ 256 := ⟨_, rfl⟩
  obtain ⟨m, hm⟩ : ∃ m, m = PP := ⟨_, rfl⟩
  obtain ⟨l, hl'⟩ : ∃ l, l = (List.range n).filter dOk := ⟨_, rfl⟩
  have hl : ∀ V, V ∈ l ↔ V < n ∧ dOk V = true := fun V => by rw [hl', List.mem_filter, List.mem_range]
  have hnd : l.Nodup := by rw [hl']; exact List.Pairwise.filter _ List.nodup_range
  have he : ∀ V ∈ l, enc (dPt V) = V := fun V h => Z4z (hn ▸ ((hl V).1 h).1) ((hl V).1 h).2
  refine ⟨l.map dPt, List.pairwise_map.2 (hnd.imp_of_mem fun ha hb hne e => hne (by rw [← he _ ha, ← he _ hb, e])), fun a => ⟨fun h => ?_, fun h => ?_⟩, ?_⟩
  · obtain ⟨V, hV, rfl⟩ := List.mem_map.1 h
    exact Q0m ((hl V).1 hV).2
  · exact List.mem_map.2 ⟨enc a, (hl _).2 ⟨hn ▸ J4m a, (J36 h).1⟩, (J36 h).2⟩
  · rw [List.length_map, ← hm]
    have hsub : l ⊆ List.range m ++ (List.range m).map (fun j => 2 ^ 255 + j) := fun V hV => by
      obtain ⟨h1, h2⟩ := (hl V).1 hV
      have h3 := Y1c h2
      rw [hn] at h1
      rw [List.mem_append, List.mem_range, List.mem_map]
      by_cases h4 : V < 2 ^ 255
      · rw [Nat.mod_eq_of_lt h4] at h3
        exact Or.inl (hm ▸ h3)
      · have e : V % 2 ^ 255 = V - 2 ^ 255 := by omega
        rw [e] at h3
        exact Or.inr ⟨V - 2 ^ 255, List.mem_range.2 (hm ▸ h3), by omega⟩
    have h5 := hnd.length_le_of_subset hsub
    rw [List.length_append, List.length_map, List.length_range] at h5
    exact h5
theorem Z40 {q : Pr} (hq : OnC q) (a b : Nat) : pm q a = p0 → pm q b = p0 → pm q (Nat.gcd a b) = p0 := by
  induction a, b using Nat.gcd.induction with
  | H0 b => intro _ h; rw [Nat.gcd_zero_left]; exact h
  | H1 a b ha ih =>
    intro h1 h2
    rw [Nat.gcd_rec]
    refine ih ?_ h1
    have e : pm q b = V5 (pm q (a * (b / a))) (pm q (b % a)) := by rw [← J7w hq, Nat.div_add_mod]
    rw [e, J7x hq, h1, Q6t, J8e] at h2
    exact h2
theorem prm_2 : Prm 2 := Q1o 2 (by decide +kernel)
theorem Z6u {q : Pr} {l n : Nat} (hl : Prm l) (hq : OnC q) (h8 : pm q (8 * l) = p0) (h2 : ¬ pm q (4 * l) = p0) (hL : ¬ pm q 8 = p0) (hn : pm q n = p0) : 8 * l ∣ n := by
  have hg := Z40 hq _ _ h8 hn
  obtain ⟨k, hk⟩ := Nat.gcd_dvd_left (8 * l) n
  have hd := Nat.gcd_dvd_right (8 * l) n
  generalize Nat.gcd (8 * l) n = g at hg hk hd
  by_cases hk2 : 2 ∣ k
  · obtain ⟨m, rfl⟩ := hk2
    have e : 4 * l = g * m := by
      have : g * (2 * m) = 2 * (g * m) := by rw [Nat.mul_left_comm]
      omega
    exact absurd (by rw [e, J7x hq, hg, Q6t]) h2
  · have hc : Nat.Coprime k 8 := ((prm_2.cop hk2).symm.pow_right 3 : Nat.Coprime k (2 ^ 3))
    have hkl : k ∣ l := hc.dvd_of_dvd_mul_left ⟨g, by rw [hk, Nat.mul_comm]⟩
    rcases hl.2 k hkl with h | h
    · rw [h, Nat.mul_one] at hk; rw [hk]; exact hd
    · subst h
      have hk0 : 0 < k := by have := hl.1; omega
      have e : g = 8 := (Nat.eq_of_mul_eq_mul_right hk0 hk).symm
      rw [e] at hg
      exact absurd hg hL

theorem Y5w : Prm 409477 := (J22 (n := 409477) (g := 2) [2, 2, 3, 34123] (J0a 186 (by decide +kernel)) (by decide +kernel)).prm
theorem Y5x : Prm 14741173 := (J22 (n := 14741173) (g := 2) ([2, 2, 3, 3] ++ [409477]) (J01 (J0a 3 (by decide +kernel)) (J02 Y5w)) (by decide +kernel)).prm
theorem Y5y : Prm 58964693 := (J22 (n := 58964693) (g := 2) ([2, 2] ++ [14741173]) (J01 (J0a 3 (by decide +kernel)) (J02 Y5x)) (by decide +kernel)).prm
theorem Y5z : Prm 3044861653679985063343 := (J22 (n := 3044861653679985063343) (g := 5) [2, 3, 11, 30703, 82163, 132667, 137849] (J0a 373 (by decide +kernel)) (by decide +kernel)).prm
theorem Y60 : Prm 198211423230930754013084525763697 := (J22 (n := 198211423230930754013084525763697) (g := 5) ([2, 2, 2, 2, 3, 23] ++ ([58964693] ++ [3044861653679985063343])) (J01 (J0a 6 (by decide +kernel)) (J01 (J02 Y5y) (J02 Y5z))) (by decide +kernel)).prm
theorem Y61 : Prm 292386187 := (J22 (n := 292386187) (g := 2) [2, 3, 3, 3, 3, 307, 5879] (J0a 78 (by decide +kernel)) (by decide +kernel)).prm
theorem Y62 : Prm 213441916511 := (J22 (n := 213441916511) (g := 13) ([2, 5, 73] ++ [292386187]) (J01 (J0a 10 (by decide +kernel)) (J02 Y61)) (by decide +kernel)).prm
theorem Y63 : Prm 531581 := (J22 (n := 531581) (g := 2) [2, 2, 5, 7, 3797] (J0a 63 (by decide +kernel)) (by decide +kernel)).prm
theorem Y64 : Prm 1224481 := (J22 (n := 1224481) (g := 13) [2, 2, 2, 2, 2, 3, 5, 2551] (J0a 52 (by decide +kernel)) (by decide +kernel)).prm
theorem Y65 : Prm 1257559732178653 := (J22 (n := 1257559732178653) (g := 2) ([2, 2, 3, 7, 23] ++ ([531581] ++ [1224481])) (J01 (J0a 6 (by decide +kernel)) (J01 (J02 Y63) (J02 Y64))) (by decide +kernel)).prm
theorem Y3z : Prm 4434155615661930479 := (J22 (n := 4434155615661930479) (g := 17) ([2, 41, 43] ++ [1257559732178653]) (J01 (J0a 8 (by decide +kernel)) (J02 Y65)) (by decide +kernel)).prm
theorem Y40 : Prm 172054593956031949258510691 := (J22 (n := 172054593956031949258510691) (g := 2) ([2, 5, 1361, 2851] ++ [4434155615661930479]) (J01 (J0a 55 (by decide +kernel)) (J02 Y3z)) (by decide +kernel)).prm
theorem Y41 : Prm 19757330305831588566944191468367130476339 := (J22 (n := 19757330305831588566944191468367130476339) (g := 2) ([2, 269] ++ ([213441916511] ++ [172054593956031949258510691])) (J01 (J0a 18 (by decide +kernel)) (J01 (J02 Y62) (J02 Y40))) (by decide +kernel)).prm
theorem Y42 : Prm 276602624281642239937218680557139826668747 := (J22 (n := 276602624281642239937218680557139826668747) (g := 2) ([2, 7] ++ [19757330305831588566944191468367130476339]) (J01 (J0a 4 (by decide +kernel)) (J02 Y41)) (by decide +kernel)).prm
theorem Y43 : Prm 7237005577332262213973186563042994240857116359379907606001950938285454250989 := (J22 (n := 7237005577332262213973186563042994240857116359379907606001950938285454250989) (g := 2) ([2, 2, 3, 11] ++ ([198211423230930754013084525763697] ++ [276602624281642239937218680557139826668747])) (J01 (J0a 5 (by decide +kernel)) (J01 (J02 Y60) (J02 Y42))) (by decide +kernel)).prm
theorem prm_LL : Prm LL := Y43
def qQx : Nat := 47490639360184182837601875270316946735278442122217188244898328344323804759522
theorem Y1d : qQx < PP := by decide
theorem Q4r : OnC (fp qQx, fp 3) := by unfold OnC; decide +kernel
theorem Y66 : pm (fp qQx, fp 3) (8 * LL) = p0 := (J3o (x := q0x) (y := q0y) rfl Y1d (by decide) Q4r (by decide) (by decide +kernel)).trans Z86
theorem Y69 : ¬ pm (fp qQx, fp 3) (4 * LL) = p0 := Q2i (J3o (x := 0) (y := 57896044618658097711785492504343953926634992332820282019728792003956564819948) rfl Y1d (by decide) Q4r (by decide) (by decide +kernel)) (by decide +kernel)
theorem q_8 : ¬ pm (fp qQx, fp 3) 8 = p0 := Q2i (J3o (x := 16081880097752553219916424747350142352236522627972514630050036450282732939404) (y := 9677746192703328013283531742046342896310160271887462984216952246948724820864) rfl Y1d (by decide) Q4r (by decide) (by decide +kernel)) (by decide +kernel)
theorem grp {a : Pr} (h : OnC a) : pm a (8 * LL) = p0 := by
  obtain ⟨L, hN, hL, hlen⟩ := Z6t
  obtain ⟨k, hk⟩ := Z6u prm_LL Q4r Y66 Y69 q_8 (Q4q hN hL Q4r)
  have hb : PP + PP < 8 * LL + 8 * LL := by decide +kernel
  have h0 : 0 < L.length := List.length_pos_of_mem ((hL p0).2 Q42)
  have e := Q4q hN hL h
  rw [hk] at e hlen h0
  generalize 8 * LL = M at *
  have hk1 : k = 1 := by
    match k, hlen, h0 with
    | 0, _, h0 => exact absurd h0 (by simp)
    | 1, _, _ => rfl
    | k + 2, hlen, _ =>
      have : M * (k + 2) = M * k + (M + M) := by rw [Nat.mul_add]; omega
      omega
  rw [hk1, Nat.mul_one] at e
  exact e
theorem Z6v {V c : Nat} {L : List UInt8} (h : J1i V L c = true) : pm (J0k V L c) LL = p0 := by
  unfold J0k
  rw [← J7x (Q0m (candOk_iff.1 h).1)]
  exact grp (Q0m (candOk_iff.1 h).1)
end Go.Proofs.YtefpoollmbmkfaaDoor

namespace Go.Proofs.YtefpoollmbmkfaaDoor
open Go.RowKit
open Sc (LL J0p)
attribute [local irreducible] hs
theorem Z41 (V : Nat) : ∃ m, clN V = 8 * m ∧ 0 < m ∧ m < LL := by
  have h0 : Q0 (clN V) 0 = J0p (Q0 V) 0 := J6z _ (J8p V) 32 0 (by decide)
  have h1 : Q0 (clN V) 31 = J0p (Q0 V) 31 := J6z _ (J8p V) 32 31 (by decide)
  have hl := Q5f V
  have b0 := J4i V 0
  have b1 := J4i V 31
  unfold J0p at h0 h1
  rw [if_pos rfl] at h0
  rw [if_neg (by decide), if_pos rfl] at h1
  generalize Q0 V 0 = x at *
  generalize Q0 V 31 = y at *
  generalize clN V = n at *
  have e0 : ((n % 256 : Nat) : Int) = x - x % 8 := by rw [← h0]; unfold Q0; rw [Nat.mul_zero, Nat.pow_zero, Nat.div_one]
  have e1 : ((n / 2 ^ 248 % 256 : Nat) : Int) = y % 64 + 64 := by rw [← h1]; rfl
  have hLL : 2 ^ 252 < LL := by decide +kernel
  refine ⟨n / 8, by omega, by omega, by omega⟩
theorem Y1e {n : Nat} (h : pm BP n = p0) : LL ∣ n := by
  have hg := Z40 J6f _ _ Z2a h
  rcases prm_LL.2 _ (Nat.gcd_dvd_left LL n) with e | e
  · rw [e, Q51] at hg
    exact absurd hg (Q2i (x := BX) (y := BY) rfl (by decide +kernel))
  · have := Nat.gcd_dvd_right LL n
    rwa [e] at this
theorem Z42 (S : Nat) : dOk (kP S) = true ∧ ¬ pm (dPt (kP S)) 8 = p0 := by
  have d := J36 (J2m J6f (kN S))
  refine ⟨d.1, fun h => ?_⟩
  rw [show dPt (kP S) = pm BP (kN S) from d.2, ← J7x J6f] at h
  have h2 := Y1e h
  obtain ⟨m, e, m0, ml⟩ := Z41 (lo (hs (lb 32 S)))
  rw [show kN S = 8 * m from e, show 8 * m * 8 = 64 * m by omega] at h2
  have h3 : LL ∣ m := Nat.Coprime.dvd_of_dvd_mul_left (by decide +kernel : Nat.Coprime LL 64) h2
  exact absurd (Nat.le_of_dvd m0 h3) (Nat.not_le.2 ml)
theorem Z3z {S : Nat} {L : List UInt8} (h : (J42 S L).2 = 0) : (J4w (kP S) L (J42 S L).1).2 = 0 ∧ (vsm (J42 S L).1).2 = 0 ∧ (J4w (kP S) L (J42 S L).1).1 = (vsm (J42 S L).1).1 := by
  cases hv : vpt (kP S) L with
  | none => rw [J7o hv] at h; cases h
  | some c =>
    rw [J2z hv]
    have hok := (J8u hv).2.1
    have hon := Q19 hok
    obtain ⟨e1, -, e3⟩ := J5v (S := S) hon
    have k1 : dOk (pG (vPr S (J0k (kP S) L c))) = true := by rw [e1]; exact (J36 (J2m hon _)).1
    have k2 : pN (vPr S (J0k (kP S) L c)) < LL := by rw [e3]; exact Z3q _ _
    have hc := (Q3l (Z42 S).1 (Z42 S).2 k1 k2 hv).1 (Q1c hon (Z6v hok))
    have hsm : vsm (vPr S (J0k (kP S) L c)) = (Q3h (vPr S (J0k (kP S) L c)), 0) := by unfold vsm; rw [if_pos k1]
    show (J4w (kP S) L (vPr S (J0k (kP S) L c))).2 = 0 ∧ (vsm (vPr S (J0k (kP S) L c))).2 = 0 ∧ (J4w (kP S) L (vPr S (J0k (kP S) L c))).1 = (vsm (vPr S (J0k (kP S) L c))).1
    rw [hc, hsm]
    exact ⟨rfl, rfl, rfl⟩
theorem Y1b (S : Nat) (L : List UInt8) : (J42 S L).2 = 0 ∨ (J42 S L).2 = 15 := by
  cases hv : vpt (kP S) L with
  | none => rw [J7o hv]; exact Or.inr rfl
  | some c => rw [J2z hv]; exact Or.inl rfl
end Go.Proofs.YtefpoollmbmkfaaDoor
