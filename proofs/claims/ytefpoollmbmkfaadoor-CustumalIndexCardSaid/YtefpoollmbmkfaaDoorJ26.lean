/- The document's point, challenge and Sum (vrf). Conditions: the sums' tables hold their numbers. The document's Sum, Prove, Check (vrf). Conditions: the sums' tables hold their numbers. The facts of custumallaw09.proofs: a proof by the seed 1, and two texts. No conditions. custumallaw09: proofs, VrfProves. Conditions: the cells of the variables hold their numbers. -/
import Derived.Test.YtefpoollmbmkfaaDoorGc
import Derived.Test.YtefpoollmbmkfaaDoorVb
import Derived.Test.YtefpoollmbmkfaaDoorJ23
import Derived.Test.YtefpoollmbmkfaaDoorSx
set_option linter.unusedSimpArgs false
set_option linter.unusedVariables false
namespace Go.Proofs.YtefpoollmbmkfaaDoor
set_option maxHeartbeats 2000000
set_option maxRecDepth 100000
open Go.RowKit
attribute [local irreducible] wpList
open Sc (LL clampF)
variable {kn : Kn}
attribute [local irreducible] hs
section
variable {w : World} {o : Oper} {a : Act} {x y z : Operand} {t : TypeId}
end
end Go.Proofs.YtefpoollmbmkfaaDoor

namespace Go.Proofs.YtefpoollmbmkfaaDoor
set_option maxHeartbeats 2000000
set_option maxRecDepth 100000
open Go.RowKit
attribute [local irreducible] wpList
open Sc (LL clampF)
variable {kn : Kn}
attribute [local irreducible] hs
end Go.Proofs.YtefpoollmbmkfaaDoor

set_option linter.unusedSimpArgs false
set_option linter.unusedVariables false
namespace Go.Proofs.YtefpoollmbmkfaaDoor
open Sc (LL clampF)
set_option maxRecDepth 100000
attribute [local irreducible] hs
theorem pm_modb {b : Pr} (hb : OnC b) (h : pm b LL = p0) (n : Nat) : pm b (n % LL) = pm b n := by
  have h1 := Nat.div_add_mod n LL
  have e : pm b n = padd (pm b (LL * (n / LL))) (pm b (n % LL)) := by rw [← pm_add hb, h1]
  rw [e, pm_mul hb, h, pm_p0, p0_padd]
/-- what the check reckons from a number of the proof is what the proof was made from -/
theorem back_pt {b : Pr} (hb : OnC b) (h : pm b LL = p0) (K C N : Nat) : padd (pm b ((K % LL + C % LL * (N % LL) % LL) % LL)) (pm (pneg (pm b N)) C) = pm b (K % LL) := by
  have e1 : pm b ((K % LL + C % LL * (N % LL) % LL) % LL) = padd (pm b (K % LL)) (pm (pm b N) C) := by
    rw [pm_modb hb h, pm_add hb, pm_modb hb h, ← Nat.mul_mod, pm_modb hb h, Nat.mul_comm C N, pm_mul hb]
  rw [e1, pm_pneg, padd_assoc (pm_on hb _) (pm_on (pm_on hb _) _) (pneg_on (pm_on (pm_on hb _) _)), padd_neg (pm_on (pm_on hb _) _), padd_p0]
theorem vC_lt (S : Nat) (h : Pr) : vC S h < P128 := Nat.mod_lt _ (by decide)
theorem vN_lt (S : Nat) (h : Pr) : vN S h < LL := Nat.mod_lt _ (by decide)
theorem parts_of {E C n : Nat} (hE : E < 2 ^ 256) (hC : C < P128) : pG (E + 2 ^ 256 * (C + P128 * n)) = E ∧ pC (E + 2 ^ 256 * (C + P128 * n)) = C ∧ pN (E + 2 ^ 256 * (C + P128 * n)) = n := by
  refine ⟨?_, ?_, ?_⟩
  · unfold pG; rw [Nat.add_mul_mod_self_left, Nat.mod_eq_of_lt hE]
  · unfold pC; rw [Nat.add_mul_div_left _ _ (Nat.two_pow_pos 256), Nat.div_eq_of_lt hE, Nat.zero_add, Nat.add_mul_mod_self_left, Nat.mod_eq_of_lt hC]
  · unfold pN; rw [Nat.add_mul_div_left _ _ (Nat.two_pow_pos 256), Nat.div_eq_of_lt hE, Nat.zero_add, Nat.add_mul_div_left _ _ (by decide), Nat.div_eq_of_lt hC, Nat.zero_add]
theorem vPr_parts {S : Nat} {h : Pr} (hon : OnC h) : pG (vPr S h) = enc (pm h (kN S)) ∧ pC (vPr S h) = vC S h ∧ pN (vPr S h) = vN S h := parts_of (enc_lt _) (vC_lt S h)
/-- what is proved is taken, where the text's point has the base's order -/
theorem prove_back {S : Nat} {h : Pr} (hon : OnC h) (hLL : pm h LL = p0) : vTake (kP S) (vPr S h) h := by
  obtain ⟨e1, e2, e3⟩ := vPr_parts (S := S) hon
  have d1 : dPt (kP S) = pm BP (kN S) := (dec_enc (pm_on BP_on _)).2
  have d2 : dPt (enc (pm h (kN S))) = pm h (kN S) := (dec_enc (pm_on hon _)).2
  unfold vTake
  rw [e1, e2, e3, d1, d2]
  unfold vN
  have g1 : ∀ b : Pr, OnC b → pm b LL = p0 → padd (pm b ((vK' S h + vC S h % LL * (kN S % LL) % LL) % LL)) (pm (pneg (pm b (kN S))) (vC S h)) = pm b (vK' S h) := fun b hb hl => back_pt hb hl _ _ _
  rw [g1 BP BP_on pm_LL, g1 h hon hLL]
  rfl
theorem tm_lit {a : Pr} {xa ya n x y : Nat} (ha : a = (fp xa, fp ya)) (hx : xa < PP) (hy : ya < PP) (hon : OnC (fp xa, fp ya)) (hn : n < 2 ^ 256)
    (h : x * (tmN (xa, ya, 1, xa * ya % PP) n 256).2.2.1 % PP = (tmN (xa, ya, 1, xa * ya % PP) n 256).1 ∧ y * (tmN (xa, ya, 1, xa * ya % PP) n 256).2.2.1 % PP = (tmN (xa, ya, 1, xa * ya % PP) n 256).2.1) : pm a n = (fp x, fp y) := by
  subst ha
  exact pt_lit (rq_all (P := (xa, ya, 1, xa * ya % PP)) (rn_of hx hy hon rfl) hn) h.1 h.2
theorem ne_p0 {a : Pr} {x y : Nat} (ha : a = (fp x, fp y)) (h : (y % PP == 1) = false) : ¬ a = p0 := by
  intro e
  rw [ha] at e
  have e2 : fp y = (1 : Fp) := congrArg Prod.snd e
  have e3 := congrArg Fin.val e2
  rw [fp_val] at e3
  have e4 : y % PP = 1 := e3
  rw [e4] at h; cases h
theorem cand_lit {V c h Vc xq yq : Nat} {L : List UInt8} {a : Pr} (eh : hs ([3, 1] ++ lb 32 V ++ L ++ [u8 c, 0]) = h) (ec : lo h = Vc) (hx : xq < PP) (hy : yq < PP) (he : yq + 2 ^ 255 * (xq % 2) = Vc) (hon : OnC (fp xq, fp yq)) (h8 : pm (fp xq, fp yq) 8 = a) (hne : ¬ a = p0) :
    candOk V L c = true ∧ candP V L c = a := by
  have e : cand V L c = enc (fp xq, fp yq) := by unfold cand; rw [eh, ec, enc_lit hx hy, he]
  obtain ⟨d1, d2⟩ := dec_enc hon
  have e8 : candP V L c = a := by unfold candP; rw [e, d2, h8]
  exact ⟨candOk_iff.2 ⟨by rw [e]; exact d1, by rw [e8]; exact hne⟩, e8⟩
def qbx : Nat := 5347412701449414475638337812612804166351006483222583960086511109711120593916
def qby : Nat := 31454809416705925197151026446448411341732414034120726205309780028097122426136
theorem qb_x : qbx < PP := by decide
theorem qb_y : qby < PP := by decide
theorem qb_on : OnC (fp qbx, fp qby) := by unfold OnC; decide +kernel
def qBx : Nat := 5974376345347396749938987862407457246551996092567368546225745622563519485233
def qBy : Nat := 25507955390308686559427229708500431997880189612436112124872904814129796593346
def q0x : Nat := 0
def q0y : Nat := 1
theorem q0_eq : (fp q0x, fp q0y) = p0 := by decide +kernel
theorem tb {a : Pr} (ha : a = (fp qbx, fp qby)) : pm a 8 = (fp qBx, fp qBy) := tm_lit ha qb_x qb_y qb_on (by decide) (by decide +kernel)
theorem cb : candOk 114357819437381932551506943292233391401526845028636896338274259687389550464206 [98] 0 = true ∧ candP 114357819437381932551506943292233391401526845028636896338274259687389550464206 [98] 0 = (fp qBx, fp qBy) := cand_lit (h := 616082032838736440229054033691866983738947723987213580315641221012400015752405605581206817103919007263269839956216054564015079766058242509860130319916312) (Vc := 31454809416705925197151026446448411341732414034120726205309780028097122426136) (hs_lit (by decide +kernel)) (by decide +kernel) qb_x qb_y (by decide +kernel) qb_on (tb rfl) (ne_p0 rfl (by decide +kernel))
end Go.Proofs.YtefpoollmbmkfaaDoor

set_option linter.unusedSimpArgs false
set_option linter.unusedVariables false
namespace Go.Proofs.YtefpoollmbmkfaaDoor
set_option maxHeartbeats 2000000
set_option maxRecDepth 100000
open Go.RowKit
attribute [local irreducible] wpList
variable {kn : Kn}
open Sc (LL clampF)
attribute [local irreducible] hs
/-- the answers of Prove and Sum: bytes, the error -/
def vprv (S : Nat) (L : List UInt8) : Nat × Nat := match vpt (kP S) L with
  | none => (0, 15)
  | some c => (vPr S (candP (kP S) L c), 0)
def vsm (P : Nat) : Nat × Nat := if dOk (pG P) = true then (vSum P, 0) else (0, 17)
theorem vprv_some {S c : Nat} {L : List UInt8} (h : vpt (kP S) L = some c) : vprv S L = (vPr S (candP (kP S) L c), 0) := by unfold vprv; rw [h]
theorem vprv_none {S : Nat} {L : List UInt8} (h : vpt (kP S) L = none) : vprv S L = (0, 15) := by unfold vprv; rw [h]
theorem candP_on {V c : Nat} {L : List UInt8} (h : candOk V L c = true) : OnC (candP V L c) := pm_on (dPt_on (candOk_iff.1 h).1) 8
theorem vprv_80 (S : Nat) (L : List UInt8) : B80 (vprv S L).1 := by
  unfold B80
  cases h : vpt (kP S) L with
  | none => rw [vprv_none h]; decide +kernel
  | some c => rw [vprv_some h]; rw [(vPr_parts (candP_on (vpt_some h).2.1)).2.2]; exact Nat.lt_trans (vN_lt _ _) LL_256
theorem proveN_c (hd : kn.d) (hb : kn.b) (hc : kn.c) {X E S : Nat} {L : List UInt8} (hX : X = (vprv S L).1) (hE : E = (vprv S L).2) (v : Value) (hL : L.length ≤ 1099511627776) (w : World) (hG : GA kn w) (hs : Sl w v L) :
    Calls Tryd.prog 23 #[.agg (arrK .u8 32 (byt S)), v] w fun e w' => Ret (.tuple #[.agg (arrK .u8 80 (byt X)), .int .i64 (E : Int)]) w w' e := by
  subst hX hE
  cases h : vpt (kP S) L with
  | none => rw [vprv_none h]; exact prove_0 hd hb hc S v L hL h w hG hs
  | some c => rw [vprv_some h]; exact prove_1 hd hb hc S c v L hL h rfl w hG hs
theorem checkN_c (hd : kn.d) (hb : kn.b) (hc : kn.c) {X E V P : Nat} {L : List UInt8} (hX : X = (vchk V L P).1) (hE : E = (vchk V L P).2) (hV : V < 2 ^ 256) (hP : B80 P) (v : Value) (hL : L.length ≤ 1099511627776) (w : World) (hG : GA kn w) (hs : Sl w v L) :
    Calls Tryd.prog 26 #[.agg (arrK .u8 32 (byt V)), v, .agg (arrK .u8 80 (byt P))] w fun e w' => Ret (.tuple #[.agg (arrK .u8 64 (byt X)), .int .i64 (E : Int)]) w w' e := by
  subst hX hE; exact check_c hd hb hc rfl hV hP v hL w hG hs
theorem vsumN_c (hc : kn.c) {X E P : Nat} (hX : X = (vsm P).1) (hE : E = (vsm P).2) (w : World) (hG : GA kn w) :
    Calls Tryd.prog 27 #[.agg (arrK .u8 80 (byt P))] w fun e w' => Ret (.tuple #[.agg (arrK .u8 64 (byt X)), .int .i64 (E : Int)]) w w' e := by
  subst hX hE
  unfold vsm
  cases h : dOk (pG P)
  · rw [if_neg (by decide)]; exact vsum_0 hc h w hG
  · rw [if_pos rfl]; exact vsum_1 hc h rfl w hG
/-- Check by the point of the text -/
theorem vchk_pt {V P c : Nat} {L : List UInt8} (h1 : dOk V = true) (h2 : ¬ pm (dPt V) 8 = p0) (h3 : dOk (pG P) = true) (h4 : pN P < LL) (h5 : vpt V L = some c) : (vTake V P (candP V L c) → vchk V L P = (vSum P, 0)) ∧ (¬ vTake V P (candP V L c) → vchk V L P = (0, 17)) := by
  have e : vchk V L P = if chk V P (candP V L c) = pC P then (vSum P, 0) else (0, 17) := by
    unfold vchk
    rw [if_neg (by rintro (h | h); rw [h1] at h; cases h; exact h2 h), if_neg (by rintro (h | h); rw [h3] at h; cases h; exact absurd h (Nat.not_le.2 h4)), h5]
  rw [e]
  exact ⟨fun h => if_pos h, fun h => if_neg h⟩
attribute [local irreducible] vprv vchk

end Go.Proofs.YtefpoollmbmkfaaDoor
