/- The facts of custumallaw09.proofs: a proof by the seed 1, and two texts. No conditions. -/
import Derived.Test.YtefpoollmbmkfaaDoorVf
import Derived.Test.YtefpoollmbmkfaaDoorSx
set_option linter.unusedSimpArgs false
set_option linter.unusedVariables false
namespace Go.Proofs.YtefpoollmbmkfaaDoor
open Sc (LL J12)
set_option maxRecDepth 100000
attribute [local irreducible] hs
theorem Q38 {b : Pr} (hb : OnC b) (h : pm b LL = p0) (n : Nat) : pm b (n % LL) = pm b n := by
  have h1 := Nat.div_add_mod n LL
  have e : pm b n = J04 (pm b (LL * (n / LL))) (pm b (n % LL)) := by rw [← Q0b hb, h1]
  rw [e, Q4r hb, h, Z0i, J9l]
theorem Q7h {b : Pr} (hb : OnC b) (h : pm b LL = p0) (K C N : Nat) : J04 (pm b ((K % LL + C % LL * (N % LL) % LL) % LL)) (pm (J32 (pm b N)) C) = pm b (K % LL) := by
  have e1 : pm b ((K % LL + C % LL * (N % LL) % LL) % LL) = J04 (pm b (K % LL)) (pm (pm b N) C) := by
    rw [Q38 hb h, Q0b hb, Q38 hb h, ← Nat.mul_mod, Q38 hb h, Nat.mul_comm C N, Q4r hb]
  rw [e1, Q6h, Q0a (J3p hb _) (J3p (J3p hb _) _) (Q2m (J3p (J3p hb _) _)), Z0h (J3p (J3p hb _) _), Q6g]
theorem Y3i (S : Nat) (h : Pr) : vC S h < J1l := Nat.mod_lt _ (by decide)
theorem Z7m (S : Nat) (h : Pr) : vN S h < LL := Nat.mod_lt _ (by decide)
theorem Z3k {E C n : Nat} (hE : E < 2 ^ 256) (hC : C < J1l) : pG (E + 2 ^ 256 * (C + J1l * n)) = E ∧ pC (E + 2 ^ 256 * (C + J1l * n)) = C ∧ pN (E + 2 ^ 256 * (C + J1l * n)) = n := by
  refine ⟨?_, ?_, ?_⟩
  · unfold pG; rw [Nat.add_mul_mod_self_left, Nat.mod_eq_of_lt hE]
  · unfold pC; rw [Nat.add_mul_div_left _ _ (Nat.two_pow_pos 256), Nat.div_eq_of_lt hE, Nat.zero_add, Nat.add_mul_mod_self_left, Nat.mod_eq_of_lt hC]
  · unfold pN; rw [Nat.add_mul_div_left _ _ (Nat.two_pow_pos 256), Nat.div_eq_of_lt hE, Nat.zero_add, Nat.add_mul_div_left _ _ (by decide), Nat.div_eq_of_lt hC, Nat.zero_add]
theorem J7e {S : Nat} {h : Pr} (hon : OnC h) : pG (vPr S h) = enc (pm h (kN S)) ∧ pC (vPr S h) = vC S h ∧ pN (vPr S h) = vN S h := Z3k (J52 _) (Y3i S h)
theorem Q5y {S : Nat} {h : Pr} (hon : OnC h) (hLL : pm h LL = p0) : J8h (kP S) (vPr S h) h := by
  obtain ⟨e1, e2, e3⟩ := J7e (S := S) hon
  have d1 : dPt (kP S) = pm BP (kN S) := (J41 (J3p J80 _)).2
  have d2 : dPt (enc (pm h (kN S))) = pm h (kN S) := (J41 (J3p hon _)).2
  unfold J8h
  rw [e1, e2, e3, d1, d2]
  unfold vN
  have g1 : ∀ b : Pr, OnC b → pm b LL = p0 → J04 (pm b ((vK' S h + vC S h % LL * (kN S % LL) % LL) % LL)) (pm (J32 (pm b (kN S))) (vC S h)) = pm b (vK' S h) := fun b hb hl => Q7h hb hl _ _ _
  rw [g1 BP J80 Z7a, g1 h hon hLL]
  rfl
theorem J4j {a : Pr} {xa ya n x y : Nat} (ha : a = (fp xa, fp ya)) (hx : xa < PP) (hy : ya < PP) (hon : OnC (fp xa, fp ya)) (hn : n < 2 ^ 256)
    (h : x * (tmN (xa, ya, 1, xa * ya % PP) n 256).2.2.1 % PP = (tmN (xa, ya, 1, xa * ya % PP) n 256).1 ∧ y * (tmN (xa, ya, 1, xa * ya % PP) n 256).2.2.1 % PP = (tmN (xa, ya, 1, xa * ya % PP) n 256).2.1) : pm a n = (fp x, fp y) := by
  subst ha
  exact Z2p (Z1s (P := (xa, ya, 1, xa * ya % PP)) (Q3g hx hy hon rfl) hn) h.1 h.2
theorem J66 {a : Pr} {x y e : Nat} (ha : a = (fp x, fp y)) (hx : x < PP) (hy : y < PP) (he : y + 2 ^ 255 * (x % 2) = e) : enc a = e := by rw [ha, Q76 hx hy, he]
theorem Y0y {a b : Pr} {x1 y1 x2 y2 x y : Nat} (ha : a = (fp x1, fp y1)) (hb : b = (fp x2, fp y2)) (hx1 : x1 < PP) (hy1 : y1 < PP) (hx2 : x2 < PP) (hy2 : y2 < PP) (o1 : OnC (fp x1, fp y1)) (o2 : OnC (fp x2, fp y2))
    (h : x * (adN (x1, y1, 1, x1 * y1 % PP) (x2, y2, 1, x2 * y2 % PP)).2.2.1 % PP = (adN (x1, y1, 1, x1 * y1 % PP) (x2, y2, 1, x2 * y2 % PP)).1 ∧ y * (adN (x1, y1, 1, x1 * y1 % PP) (x2, y2, 1, x2 * y2 % PP)).2.2.1 % PP = (adN (x1, y1, 1, x1 * y1 % PP) (x2, y2, 1, x2 * y2 % PP)).2.1) : J04 a b = (fp x, fp y) := by
  subst ha hb
  exact Z2p (Z78 (s := (x1, y1, 1, x1 * y1 % PP)) (t := (x2, y2, 1, x2 * y2 % PP)) (Q3g hx1 hy1 o1 rfl) (Q3g hx2 hy2 o2 rfl)) h.1 h.2
theorem Z3l {a : Pr} {x y : Nat} (ha : a = (fp x, fp y)) (h : (y % PP == 1) = false) : ¬ a = p0 := by
  intro e
  rw [ha] at e
  have e2 : fp y = (1 : Fp) := congrArg Prod.snd e
  have e3 := congrArg Fin.val e2
  rw [Q2i] at e3
  have e4 : y % PP = 1 := e3
  rw [e4] at h; cases h
theorem Q4d {V c h Vc xq yq : Nat} {L : List UInt8} {a : Pr} (eh : hs ([3, 1] ++ lb 32 V ++ L ++ [u8 c, 0]) = h) (ec : lo h = Vc) (hx : xq < PP) (hy : yq < PP) (he : yq + 2 ^ 255 * (xq % 2) = Vc) (hon : OnC (fp xq, fp yq)) (h8 : pm (fp xq, fp yq) 8 = a) (hne : ¬ a = p0) :
    J1j V L c = true ∧ J1f V L c = a := by
  have e : J53 V L c = enc (fp xq, fp yq) := by unfold J53; rw [eh, ec, Q76 hx hy, he]
  obtain ⟨d1, d2⟩ := J41 hon
  have e8 : J1f V L c = a := by unfold J1f; rw [e, d2, h8]
  exact ⟨candOk_iff.2 ⟨by rw [e]; exact d1, by rw [e8]; exact hne⟩, e8⟩
theorem Q7i {V : Nat} {L : List UInt8} (h : J1j V L 0 = true) : vpt V L = some 0 := by
  unfold vpt
  show Q4a V L (255 + 1) 0 = some 0
  unfold Q4a
  rw [if_pos h]
theorem Q5z {S h1 N D P : Nat} (e : hs (lb 32 S) = h1) (eN : clN (lo h1) = N) (eD : hi h1 = D) (eP : enc (pm BP N) = P) : kN S = N ∧ kD S = D ∧ kP S = P := by
  subst e eN eD eP; exact ⟨rfl, rfl, rfl⟩
theorem Q9e {S N D P E G U W hk K hc C n : Nat} {h : Pr} (eN : kN S = N) (eD : kD S = D) (eP : kP S = P) (eE : enc h = E) (ek : hs (lb 32 D ++ lb 32 E) = hk) (ek2 : hk % LL = K) (eG : enc (pm h N) = G) (eU : enc (pm BP K) = U) (eW : enc (pm h K) = W)
    (ec : hs ([3, 2] ++ lb 32 P ++ lb 32 E ++ lb 32 G ++ lb 32 U ++ lb 32 W ++ [0]) = hc) (ec2 : hc % J1l = C) (en : (K + C % LL * (N % LL) % LL) % LL = n) : vK' S h = K ∧ vC S h = C ∧ vN S h = n := by
  have k1 : vK' S h = K := by unfold vK'; rw [eD, eE, ek, ek2]
  have k2 : vC S h = C := by unfold vC ch chH; rw [k1, eN, eP, eE, eG, eU, eW, ec, ec2]
  exact ⟨k1, k2, by unfold vN; rw [k1, k2, eN, en]⟩
theorem Q9f {S N P E G U W hd C C2 n K : Nat} {h b : Pr} (hon : OnC h) (eN : kN S = N) (eP : kP S = P) (k1 : vK' S h = K) (k2 : vC S h = C) (k3 : vN S h = n) (eE : enc b = E) (eG : enc (pm h N) = G) (eU : enc (pm BP K) = U) (eW : enc (J04 (pm b n) (pm (J32 (pm h N)) C)) = W)
    (ec : hs ([3, 2] ++ lb 32 P ++ lb 32 E ++ lb 32 G ++ lb 32 U ++ lb 32 W ++ [0]) = hd) (ec2 : hd % J1l = C2) (hne : ¬ C2 = C) : ¬ J8h (kP S) (vPr S h) b := by
  obtain ⟨e1, e2, e3⟩ := J7e (S := S) hon
  have d1 : dPt (kP S) = pm BP (kN S) := (J41 (J3p J80 _)).2
  have d2 : dPt (enc (pm h (kN S))) = pm h (kN S) := (J41 (J3p hon _)).2
  have g1 : J04 (pm BP (vN S h)) (pm (J32 (pm BP (kN S))) (vC S h)) = pm BP (vK' S h) := Q7h J80 Z7a _ _ _
  intro ht
  unfold J8h at ht
  rw [e1, e2, e3, d1, d2, g1] at ht
  unfold ch chH at ht
  rw [eP, k1, k2, k3, eN, eE, eG, eU, eW, ec, ec2] at ht
  exact hne ht
def qPx : Nat := 26822555233711949854380153315158647482531717314742952720223963642152101436051
def qPy : Nat := 56461774818723834839721450787889437474891852695816614318545467683432985644238
theorem Y3j : qPx < PP := by decide
theorem Y3k : qPy < PP := by decide
theorem Y3l : OnC (fp qPx, fp qPy) := by unfold OnC; decide +kernel
def qax : Nat := 47024039051628811779107516702321879712624584126105895814772064878575390995579
def qay : Nat := 36463181788650339775237385953296199005534778670103291544839962084555217917972
theorem Y3m : qax < PP := by decide
theorem Y3n : qay < PP := by decide
theorem Z7p : OnC (fp qax, fp qay) := by unfold OnC; decide +kernel
def qbx : Nat := 5347412701449414475638337812612804166351006483222583960086511109711120593916
def qby : Nat := 31454809416705925197151026446448411341732414034120726205309780028097122426136
theorem Y3o : qbx < PP := by decide
theorem Y3p : qby < PP := by decide
theorem Z7q : OnC (fp qbx, fp qby) := by unfold OnC; decide +kernel
def qAx : Nat := 4469178358068918509625982920184479197551857748499590235157424197441462617855
def qAy : Nat := 16503622182197511828209738090181657542955776088139777616436718276135933772672
theorem Z6b : qAx < PP := by decide
theorem Z6c : qAy < PP := by decide
theorem Q4e : OnC (fp qAx, fp qAy) := by unfold OnC; decide +kernel
def qBx : Nat := 5974376345347396749938987862407457246551996092567368546225745622563519485233
def qBy : Nat := 25507955390308686559427229708500431997880189612436112124872904814129796593346
theorem Y3q : qBx < PP := by decide
theorem Y3r : qBy < PP := by decide
theorem Y3s : OnC (fp qBx, fp qBy) := by unfold OnC; decide +kernel
def qGx : Nat := 52849512371216097416144070854348002339830276853655352174081457955876419264926
def qGy : Nat := 18696685970608254202361949891616185249678853724601089132532660764177179248217
theorem Y3t : qGx < PP := by decide
theorem Y3u : qGy < PP := by decide
def qHx : Nat := 5046532247442000295641421649995951586804715479164929845647334048080145555023
def qHy : Nat := 18696685970608254202361949891616185249678853724601089132532660764177179248217
theorem Y5l : qHx < PP := by decide
theorem Y5m : qHy < PP := by decide
theorem Y3v : OnC (fp qHx, fp qHy) := by unfold OnC; decide +kernel
def qUx : Nat := 34041848190338174590199495275267166861103803162117913164112832323681138233462
def qUy : Nat := 10698877992207514302921899927584436771403796231390052444100648854606243683879
theorem Y3w : qUx < PP := by decide
theorem Y3x : qUy < PP := by decide
def qWx : Nat := 54216188195815484947427281557918180183775820976694042062661435957267160522392
def qWy : Nat := 25127804734697795270971494780440874830326818899784732585710284858304774582977
theorem Y5n : qWx < PP := by decide
theorem Y5o : qWy < PP := by decide
def Z6d : Nat := 15305460063662360849636066956607517872801195214844971600126247347963246928219
def Z6e : Nat := 33063317137921983270192251169376104506385357643234122421449905331893286617428
theorem Y3y : Z6d < PP := by decide
theorem Y3z : Z6e < PP := by decide
theorem Y10 : OnC (fp Z6d, fp Z6e) := by unfold OnC; decide +kernel
def Z6f : Nat := 9801310404785320244818855751587982283057879391861629553288258005068067321999
def Z6g : Nat := 34371539319246345432998495076013424602850629991217940145977496407126046607418
theorem Y40 : Z6f < PP := by decide
theorem Y41 : Z6g < PP := by decide
theorem Y11 : OnC (fp Z6f, fp Z6g) := by unfold OnC; decide +kernel
def Y42 : Nat := 22801831497374732990026139424660372227231082220795440041409309073464833047447
def Y43 : Nat := 42087999013756145457267656185239980954730474700548294743534455844544161265793
theorem Y44 : Y42 < PP := by decide
theorem Y45 : Y43 < PP := by decide
def qEx : Nat := 15442730981594750838971302459575842918760929366015934280027366898552379046717
def qEy : Nat := 42218610869048474510830178928357113993860933435220319996272949481851902639999
def q0x : Nat := 0
def q0y : Nat := 1
theorem Z7o : (fp q0x, fp q0y) = p0 := by decide +kernel
theorem tP : pm BP 41354757114163650016304086911142683682198188400503391378057401993857692208328 = (fp qPx, fp qPy) := J4j (xa := BX) (ya := BY) rfl (by decide) (by decide) J80 (by decide) (by decide +kernel)
theorem tU : pm BP 3161791165370906722381511076698169585287567781214044859123769755562896188151 = (fp qUx, fp qUy) := J4j (xa := BX) (ya := BY) rfl (by decide) (by decide) J80 (by decide) (by decide +kernel)
theorem tE {a : Pr} (ha : a = (fp qPx, fp qPy)) : pm a 8 = (fp qEx, fp qEy) := J4j ha Y3j Y3k Y3l (by decide) (by decide +kernel)
theorem ta {a : Pr} (ha : a = (fp qax, fp qay)) : pm a 8 = (fp qAx, fp qAy) := J4j ha Y3m Y3n Z7p (by decide) (by decide +kernel)
theorem tb {a : Pr} (ha : a = (fp qbx, fp qby)) : pm a 8 = (fp qBx, fp qBy) := J4j ha Y3o Y3p Z7q (by decide) (by decide +kernel)
theorem tL {a : Pr} (ha : a = (fp qAx, fp qAy)) : pm a 7237005577332262213973186563042994240857116359379907606001950938285454250989 = (fp q0x, fp q0y) := J4j ha Z6b Z6c Q4e (by decide) (by decide +kernel)
theorem tG {a : Pr} (ha : a = (fp qAx, fp qAy)) : pm a 41354757114163650016304086911142683682198188400503391378057401993857692208328 = (fp qGx, fp qGy) := J4j ha Z6b Z6c Q4e (by decide) (by decide +kernel)
theorem tW {a : Pr} (ha : a = (fp qAx, fp qAy)) : pm a 3161791165370906722381511076698169585287567781214044859123769755562896188151 = (fp qWx, fp qWy) := J4j ha Z6b Z6c Q4e (by decide) (by decide +kernel)
theorem tW1 {a : Pr} (ha : a = (fp qBx, fp qBy)) : pm a 4468977000769298177449662360017992953311027276441274504179330820775322765732 = (fp Z6d, fp Z6e) := J4j ha Y3q Y3r Y3s (by decide) (by decide +kernel)
theorem tW2 {a : Pr} (ha : a = (fp qHx, fp qHy)) : pm a 189355229152301691842014874267105580829 = (fp Z6f, fp Z6g) := J4j ha Y5l Y5m Y3v (by decide) (by decide +kernel)
theorem nG : J32 (fp qGx, fp qGy) = (fp qHx, fp qHy) := by decide +kernel
theorem aW : J04 (fp Z6d, fp Z6e) (fp Z6f, fp Z6g) = (fp Y42, fp Y43) := Y0y rfl rfl Y3y Y3z Y40 Y41 Y10 Y11 (by decide +kernel)
theorem sp1 : kN 1 = 41354757114163650016304086911142683682198188400503391378057401993857692208328 ∧ kD 1 = 74947656346158344409503503793437276329892731540947283120607119044439939905177 ∧ kP 1 = 114357819437381932551506943292233391401526845028636896338274259687389550464206 := Q5z (h1 := 8678345711762074483941435942459349315791744468269612026220829880717679751032992162212105630643471702240689105779349018571374047650718608606628566249376974) (J8x (by decide +kernel)) (by decide +kernel) (by decide +kernel) (J66 tP Y3j Y3k (by decide +kernel))
theorem ca : J1j 114357819437381932551506943292233391401526845028636896338274259687389550464206 [97] 0 = true ∧ J1f 114357819437381932551506943292233391401526845028636896338274259687389550464206 [97] 0 = (fp qAx, fp qAy) := Q4d (h := 4217728401137996085136769034409487805852939532085486328493455349853149161186833495216620188908688633613128681065855967220427564136070603473464087361574932) (Vc := 94359226407308437487022878457640152932169771002923573564568754088511782737940) (J8x (by decide +kernel)) (by decide +kernel) Y3m Y3n (by decide +kernel) Z7p (ta rfl) (Z3l rfl (by decide +kernel))
theorem cb : J1j 114357819437381932551506943292233391401526845028636896338274259687389550464206 [98] 0 = true ∧ J1f 114357819437381932551506943292233391401526845028636896338274259687389550464206 [98] 0 = (fp qBx, fp qBy) := Q4d (h := 616082032838736440229054033691866983738947723987213580315641221012400015752405605581206817103919007263269839956216054564015079766058242509860130319916312) (Vc := 31454809416705925197151026446448411341732414034120726205309780028097122426136) (J8x (by decide +kernel)) (by decide +kernel) Y3o Y3p (by decide +kernel) Z7q (tb rfl) (Z3l rfl (by decide +kernel))
theorem prf {h : Pr} (hh : h = (fp qAx, fp qAy)) : vK' 1 h = 3161791165370906722381511076698169585287567781214044859123769755562896188151 ∧ vC 1 h = 189355229152301691842014874267105580829 ∧ vN 1 h = 4468977000769298177449662360017992953311027276441274504179330820775322765732 :=
  Q9e (E := 74399666800855609539995230594525611469590768420960059636165510280092498592640) (G := 18696685970608254202361949891616185249678853724601089132532660764177179248217) (U := 10698877992207514302921899927584436771403796231390052444100648854606243683879) (W := 25127804734697795270971494780440874830326818899784732585710284858304774582977) (hk := 7933415268325076307271346314144494355142637304550576680828700674770017726477853738904922442346056435285655651424819270612212731135168475110439682221851997) (hc := 13063749317693618417669880169613355355953181294424221209471115007105793069900072920294027680970886204668055256065792387961984747987670934027457557955041053) sp1.1 sp1.2.1 sp1.2.2 (J66 hh Z6b Z6c (by decide +kernel)) (J8x (by decide +kernel)) (by decide +kernel) (J66 (tG hh) Y3t Y3u (by decide +kernel)) (J66 tU Y3w Y3x (by decide +kernel)) (J66 (tW hh) Y5n Y5o (by decide +kernel))
    (J8x (by decide +kernel)) (by decide +kernel) (by decide +kernel)
theorem wrg {h b : Pr} (hh : h = (fp qAx, fp qAy)) (hb : b = (fp qBx, fp qBy)) : ¬ J8h (kP 1) (vPr 1 h) b :=
  Q9f (E := 83404000008966784271212722212844385924515181945256394144601696818086361413314) (G := 18696685970608254202361949891616185249678853724601089132532660764177179248217) (U := 10698877992207514302921899927584436771403796231390052444100648854606243683879) (W := 99984043632414243169053148689583934881365467033368576763263247848500726085761) (hd := 6281280134693562258463763669867447912133814464242399964677319322490654154923754615745931622186191480769860810395302255569196722421205755927676107013356286) (C2 := 270988073588811713367589928953451772670) (hh ▸ Q4e) sp1.1 sp1.2.2 (prf hh).1 (prf hh).2.1 (prf hh).2.2 (J66 hb Y3q Y3r (by decide +kernel)) (J66 (tG hh) Y3t Y3u (by decide +kernel)) (J66 tU Y3w Y3x (by decide +kernel)) (J66 (by rw [tW1 hb, tG hh, nG, tW2 rfl, aW]) Y44 Y45 (by decide +kernel))
    (J8x (by decide +kernel)) (by decide +kernel) (by decide +kernel)
theorem key1 : dOk (kP 1) = true ∧ ¬ pm (dPt (kP 1)) 8 = p0 := by
  have d := J41 (J3p J80 (kN 1))
  refine ⟨d.1, ?_⟩
  rw [show dPt (kP 1) = pm BP (kN 1) from d.2, sp1.1]
  exact Z3l (tE tP) (by decide +kernel)
theorem vpa : vpt (kP 1) [97] = some 0 := by rw [sp1.2.2]; exact Q7i ca.1
theorem vpb : vpt (kP 1) [98] = some 0 := by rw [sp1.2.2]; exact Q7i cb.1
theorem ha_ : J1f (kP 1) [97] 0 = (fp qAx, fp qAy) := by rw [sp1.2.2]; exact ca.2
theorem hb_ : J1f (kP 1) [98] 0 = (fp qBx, fp qBy) := by rw [sp1.2.2]; exact cb.2
theorem Y0q : J8h (kP 1) (vPr 1 (J1f (kP 1) [97] 0)) (J1f (kP 1) [97] 0) := by rw [ha_]; exact Q5y Q4e ((tL rfl).trans Z7o)
theorem Y0r : ¬ J8h (kP 1) (vPr 1 (J1f (kP 1) [97] 0)) (J1f (kP 1) [98] 0) := wrg ha_ hb_
end Go.Proofs.YtefpoollmbmkfaaDoor
