/- The facts of custumallaw09.proofs: a proof by the seed 1, and two texts. No conditions. -/
import Derived.Test.YtefpoollmbmkfaaDoorVf
import Derived.Test.YtefpoollmbmkfaaDoorSx
set_option linter.unusedSimpArgs false
set_option linter.unusedVariables false
namespace Go.Proofs.YtefpoollmbmkfaaDoor
open Sc (LL J2a)
set_option maxRecDepth 100000
attribute [local irreducible] hs
theorem Q98 {b : Pr} (hb : OnC b) (h : pm b LL = p0) (n : Nat) : pm b (n % LL) = pm b n := by
  have h1 := Nat.div_add_mod n LL
  have e : pm b n = J14 (pm b (LL * (n / LL))) (pm b (n % LL)) := by rw [← Q5l hb, h1]
  rw [e, Z1h hb, h, Y6p, Q46]
theorem Z55 {b : Pr} (hb : OnC b) (h : pm b LL = p0) (K C N : Nat) : J14 (pm b ((K % LL + C % LL * (N % LL) % LL) % LL)) (pm (J4d (pm b N)) C) = pm b (K % LL) := by
  have e1 : pm b ((K % LL + C % LL * (N % LL) % LL) % LL) = J14 (pm b (K % LL)) (pm (pm b N) C) := by
    rw [Q98 hb h, Q5l hb, Q98 hb h, ← Nat.mul_mod, Q98 hb h, Nat.mul_comm C N, Z1h hb]
  rw [e1, Z3o, Q5k (J63 hb _) (J63 (J63 hb _) _) (Q45 (J63 (J63 hb _) _)), Z8u (J63 (J63 hb _) _), Z3n]
theorem V42 (S : Nat) (h : Pr) : vC S h < J2b := Nat.mod_lt _ (by decide)
theorem Y7k (S : Nat) (h : Pr) : vN S h < LL := Nat.mod_lt _ (by decide)
theorem Y2u {E C n : Nat} (hE : E < 2 ^ 256) (hC : C < J2b) : pG (E + 2 ^ 256 * (C + J2b * n)) = E ∧ pC (E + 2 ^ 256 * (C + J2b * n)) = C ∧ pN (E + 2 ^ 256 * (C + J2b * n)) = n := by
  refine ⟨?_, ?_, ?_⟩
  · unfold pG; rw [Nat.add_mul_mod_self_left, Nat.mod_eq_of_lt hE]
  · unfold pC; rw [Nat.add_mul_div_left _ _ (Nat.two_pow_pos 256), Nat.div_eq_of_lt hE, Nat.zero_add, Nat.add_mul_mod_self_left, Nat.mod_eq_of_lt hC]
  · unfold pN; rw [Nat.add_mul_div_left _ _ (Nat.two_pow_pos 256), Nat.div_eq_of_lt hE, Nat.zero_add, Nat.add_mul_div_left _ _ (by decide), Nat.div_eq_of_lt hC, Nat.zero_add]
theorem Q0m {S : Nat} {h : Pr} (hon : OnC h) : pG (vPr S h) = enc (pm h (kN S)) ∧ pC (vPr S h) = vC S h ∧ pN (vPr S h) = vN S h := Y2u (J4p _) (V42 S h)
theorem Z2v {S : Nat} {h : Pr} (hon : OnC h) (hLL : pm h LL = p0) : Q2f (kP S) (vPr S h) h := by
  obtain ⟨e1, e2, e3⟩ := Q0m (S := S) hon
  have d1 : dPt (kP S) = pm BP (kN S) := (J8p (J63 Q0q _)).2
  have d2 : dPt (enc (pm h (kN S))) = pm h (kN S) := (J8p (J63 hon _)).2
  unfold Q2f
  rw [e1, e2, e3, d1, d2]
  unfold vN
  have g1 : ∀ b : Pr, OnC b → pm b LL = p0 → J14 (pm b ((vK' S h + vC S h % LL * (kN S % LL) % LL) % LL)) (pm (J4d (pm b (kN S))) (vC S h)) = pm b (vK' S h) := fun b hb hl => Z55 hb hl _ _ _
  rw [g1 BP Q0q Y74, g1 h hon hLL]
  rfl
theorem J7t {a : Pr} {xa ya n x y : Nat} (ha : a = (fp xa, fp ya)) (hx : xa < PP) (hy : ya < PP) (hon : OnC (fp xa, fp ya)) (hn : n < 2 ^ 256)
    (h : x * (tmN (xa, ya, 1, xa * ya % PP) n 256).2.2.1 % PP = (tmN (xa, ya, 1, xa * ya % PP) n 256).1 ∧ y * (tmN (xa, ya, 1, xa * ya % PP) n 256).2.2.1 % PP = (tmN (xa, ya, 1, xa * ya % PP) n 256).2.1) : pm a n = (fp x, fp y) := by
  subst ha
  exact Y1n (Y06 (P := (xa, ya, 1, xa * ya % PP)) (Q6m hx hy hon rfl) hn) h.1 h.2
theorem J95 {a : Pr} {x y e : Nat} (ha : a = (fp x, fp y)) (hx : x < PP) (hy : y < PP) (he : y + 2 ^ 255 * (x % 2) = e) : enc a = e := by rw [ha, Z4t hx hy, he]
theorem V14 {a b : Pr} {x1 y1 x2 y2 x y : Nat} (ha : a = (fp x1, fp y1)) (hb : b = (fp x2, fp y2)) (hx1 : x1 < PP) (hy1 : y1 < PP) (hx2 : x2 < PP) (hy2 : y2 < PP) (o1 : OnC (fp x1, fp y1)) (o2 : OnC (fp x2, fp y2))
    (h : x * (adN (x1, y1, 1, x1 * y1 % PP) (x2, y2, 1, x2 * y2 % PP)).2.2.1 % PP = (adN (x1, y1, 1, x1 * y1 % PP) (x2, y2, 1, x2 * y2 % PP)).1 ∧ y * (adN (x1, y1, 1, x1 * y1 % PP) (x2, y2, 1, x2 * y2 % PP)).2.2.1 % PP = (adN (x1, y1, 1, x1 * y1 % PP) (x2, y2, 1, x2 * y2 % PP)).2.1) : J14 a b = (fp x, fp y) := by
  subst ha hb
  exact Y1n (Y72 (s := (x1, y1, 1, x1 * y1 % PP)) (t := (x2, y2, 1, x2 * y2 % PP)) (Q6m hx1 hy1 o1 rfl) (Q6m hx2 hy2 o2 rfl)) h.1 h.2
theorem Y2v {a : Pr} {x y : Nat} (ha : a = (fp x, fp y)) (h : (y % PP == 1) = false) : ¬ a = p0 := by
  intro e
  rw [ha] at e
  have e2 : fp y = (1 : Fp) := congrArg Prod.snd e
  have e3 := congrArg Fin.val e2
  rw [Q8b] at e3
  have e4 : y % PP = 1 := e3
  rw [e4] at h; cases h
theorem Z0v {V c h Vc xq yq : Nat} {L : List UInt8} {a : Pr} (eh : hs ([3, 1] ++ lb 32 V ++ L ++ [u8 c, 0]) = h) (ec : lo h = Vc) (hx : xq < PP) (hy : yq < PP) (he : yq + 2 ^ 255 * (xq % 2) = Vc) (hon : OnC (fp xq, fp yq)) (h8 : pm (fp xq, fp yq) 8 = a) (hne : ¬ a = p0) :
    J2d V L c = true ∧ J22 V L c = a := by
  have e : J3x V L c = enc (fp xq, fp yq) := by unfold J3x; rw [eh, ec, Z4t hx hy, he]
  obtain ⟨d1, d2⟩ := J8p hon
  have e8 : J22 V L c = a := by unfold J22; rw [e, d2, h8]
  exact ⟨candOk_iff.2 ⟨by rw [e]; exact d1, by rw [e8]; exact hne⟩, e8⟩
theorem Z56 {V : Nat} {L : List UInt8} (h : J2d V L 0 = true) : vpt V L = some 0 := by
  unfold vpt
  show Z0t V L (255 + 1) 0 = some 0
  unfold Z0t
  rw [if_pos h]
theorem Z2w {S h1 N D P : Nat} (e : hs (lb 32 S) = h1) (eN : clN (lo h1) = N) (eD : hi h1 = D) (eP : enc (pm BP N) = P) : kN S = N ∧ kD S = D ∧ kP S = P := by
  subst e eN eD eP; exact ⟨rfl, rfl, rfl⟩
theorem Z7d {S N D P E G U W hk K hc C n : Nat} {h : Pr} (eN : kN S = N) (eD : kD S = D) (eP : kP S = P) (eE : enc h = E) (ek : hs (lb 32 D ++ lb 32 E) = hk) (ek2 : hk % LL = K) (eG : enc (pm h N) = G) (eU : enc (pm BP K) = U) (eW : enc (pm h K) = W)
    (ec : hs ([3, 2] ++ lb 32 P ++ lb 32 E ++ lb 32 G ++ lb 32 U ++ lb 32 W ++ [0]) = hc) (ec2 : hc % J2b = C) (en : (K + C % LL * (N % LL) % LL) % LL = n) : vK' S h = K ∧ vC S h = C ∧ vN S h = n := by
  have k1 : vK' S h = K := by unfold vK'; rw [eD, eE, ek, ek2]
  have k2 : vC S h = C := by unfold vC ch chH; rw [k1, eN, eP, eE, eG, eU, eW, ec, ec2]
  exact ⟨k1, k2, by unfold vN; rw [k1, k2, eN, en]⟩
theorem Z7e {S N P E G U W hd C C2 n K : Nat} {h b : Pr} (hon : OnC h) (eN : kN S = N) (eP : kP S = P) (k1 : vK' S h = K) (k2 : vC S h = C) (k3 : vN S h = n) (eE : enc b = E) (eG : enc (pm h N) = G) (eU : enc (pm BP K) = U) (eW : enc (J14 (pm b n) (pm (J4d (pm h N)) C)) = W)
    (ec : hs ([3, 2] ++ lb 32 P ++ lb 32 E ++ lb 32 G ++ lb 32 U ++ lb 32 W ++ [0]) = hd) (ec2 : hd % J2b = C2) (hne : ¬ C2 = C) : ¬ Q2f (kP S) (vPr S h) b := by
  obtain ⟨e1, e2, e3⟩ := Q0m (S := S) hon
  have d1 : dPt (kP S) = pm BP (kN S) := (J8p (J63 Q0q _)).2
  have d2 : dPt (enc (pm h (kN S))) = pm h (kN S) := (J8p (J63 hon _)).2
  have g1 : J14 (pm BP (vN S h)) (pm (J4d (pm BP (kN S))) (vC S h)) = pm BP (vK' S h) := Z55 Q0q Y74 _ _ _
  intro ht
  unfold Q2f at ht
  rw [e1, e2, e3, d1, d2, g1] at ht
  unfold ch chH at ht
  rw [eP, k1, k2, k3, eN, eE, eG, eU, eW, ec, ec2] at ht
  exact hne ht
def qPx : Nat := 26822555233711949854380153315158647482531717314742952720223963642152101436051
def qPy : Nat := 56461774818723834839721450787889437474891852695816614318545467683432985644238
theorem V43 : qPx < PP := by decide
theorem V44 : qPy < PP := by decide
theorem V45 : OnC (fp qPx, fp qPy) := by unfold OnC; decide +kernel
def qax : Nat := 47024039051628811779107516702321879712624584126105895814772064878575390995579
def qay : Nat := 36463181788650339775237385953296199005534778670103291544839962084555217917972
theorem V46 : qax < PP := by decide
theorem V47 : qay < PP := by decide
theorem Y7l : OnC (fp qax, fp qay) := by unfold OnC; decide +kernel
def qbx : Nat := 5347412701449414475638337812612804166351006483222583960086511109711120593916
def qby : Nat := 31454809416705925197151026446448411341732414034120726205309780028097122426136
theorem V48 : qbx < PP := by decide
theorem V49 : qby < PP := by decide
theorem Y7m : OnC (fp qbx, fp qby) := by unfold OnC; decide +kernel
def qAx : Nat := 4469178358068918509625982920184479197551857748499590235157424197441462617855
def qAy : Nat := 16503622182197511828209738090181657542955776088139777616436718276135933772672
theorem Y5y : qAx < PP := by decide
theorem Y5z : qAy < PP := by decide
theorem Z0w : OnC (fp qAx, fp qAy) := by unfold OnC; decide +kernel
def qBx : Nat := 5974376345347396749938987862407457246551996092567368546225745622563519485233
def qBy : Nat := 25507955390308686559427229708500431997880189612436112124872904814129796593346
theorem V4a : qBx < PP := by decide
theorem V4b : qBy < PP := by decide
theorem V4c : OnC (fp qBx, fp qBy) := by unfold OnC; decide +kernel
def qGx : Nat := 52849512371216097416144070854348002339830276853655352174081457955876419264926
def qGy : Nat := 18696685970608254202361949891616185249678853724601089132532660764177179248217
theorem V4d : qGx < PP := by decide
theorem V4e : qGy < PP := by decide
def qHx : Nat := 5046532247442000295641421649995951586804715479164929845647334048080145555023
def qHy : Nat := 18696685970608254202361949891616185249678853724601089132532660764177179248217
theorem V65 : qHx < PP := by decide
theorem V66 : qHy < PP := by decide
theorem V4f : OnC (fp qHx, fp qHy) := by unfold OnC; decide +kernel
def qUx : Nat := 34041848190338174590199495275267166861103803162117913164112832323681138233462
def qUy : Nat := 10698877992207514302921899927584436771403796231390052444100648854606243683879
theorem V4g : qUx < PP := by decide
theorem V4h : qUy < PP := by decide
def qWx : Nat := 54216188195815484947427281557918180183775820976694042062661435957267160522392
def qWy : Nat := 25127804734697795270971494780440874830326818899784732585710284858304774582977
theorem V67 : qWx < PP := by decide
theorem V68 : qWy < PP := by decide
def Y60 : Nat := 15305460063662360849636066956607517872801195214844971600126247347963246928219
def Y61 : Nat := 33063317137921983270192251169376104506385357643234122421449905331893286617428
theorem V4i : Y60 < PP := by decide
theorem V4j : Y61 < PP := by decide
theorem V16 : OnC (fp Y60, fp Y61) := by unfold OnC; decide +kernel
def Y62 : Nat := 9801310404785320244818855751587982283057879391861629553288258005068067321999
def Y63 : Nat := 34371539319246345432998495076013424602850629991217940145977496407126046607418
theorem V4k : Y62 < PP := by decide
theorem V4l : Y63 < PP := by decide
theorem V17 : OnC (fp Y62, fp Y63) := by unfold OnC; decide +kernel
def V4m : Nat := 22801831497374732990026139424660372227231082220795440041409309073464833047447
def V4n : Nat := 42087999013756145457267656185239980954730474700548294743534455844544161265793
theorem V4o : V4m < PP := by decide
theorem V4p : V4n < PP := by decide
def qEx : Nat := 15442730981594750838971302459575842918760929366015934280027366898552379046717
def qEy : Nat := 42218610869048474510830178928357113993860933435220319996272949481851902639999
def q0x : Nat := 0
def q0y : Nat := 1
theorem V4q : (fp q0x, fp q0y) = p0 := by decide +kernel
theorem tP : pm BP 41354757114163650016304086911142683682198188400503391378057401993857692208328 = (fp qPx, fp qPy) := J7t (xa := BX) (ya := BY) rfl (by decide) (by decide) Q0q (by decide) (by decide +kernel)
theorem tU : pm BP 3161791165370906722381511076698169585287567781214044859123769755562896188151 = (fp qUx, fp qUy) := J7t (xa := BX) (ya := BY) rfl (by decide) (by decide) Q0q (by decide) (by decide +kernel)
theorem tE {a : Pr} (ha : a = (fp qPx, fp qPy)) : pm a 8 = (fp qEx, fp qEy) := J7t ha V43 V44 V45 (by decide) (by decide +kernel)
theorem ta {a : Pr} (ha : a = (fp qax, fp qay)) : pm a 8 = (fp qAx, fp qAy) := J7t ha V46 V47 Y7l (by decide) (by decide +kernel)
theorem tb {a : Pr} (ha : a = (fp qbx, fp qby)) : pm a 8 = (fp qBx, fp qBy) := J7t ha V48 V49 Y7m (by decide) (by decide +kernel)
theorem tL {a : Pr} (ha : a = (fp qAx, fp qAy)) : pm a 7237005577332262213973186563042994240857116359379907606001950938285454250989 = (fp q0x, fp q0y) := J7t ha Y5y Y5z Z0w (by decide) (by decide +kernel)
theorem tG {a : Pr} (ha : a = (fp qAx, fp qAy)) : pm a 41354757114163650016304086911142683682198188400503391378057401993857692208328 = (fp qGx, fp qGy) := J7t ha Y5y Y5z Z0w (by decide) (by decide +kernel)
theorem tW {a : Pr} (ha : a = (fp qAx, fp qAy)) : pm a 3161791165370906722381511076698169585287567781214044859123769755562896188151 = (fp qWx, fp qWy) := J7t ha Y5y Y5z Z0w (by decide) (by decide +kernel)
theorem tW1 {a : Pr} (ha : a = (fp qBx, fp qBy)) : pm a 4468977000769298177449662360017992953311027276441274504179330820775322765732 = (fp Y60, fp Y61) := J7t ha V4a V4b V4c (by decide) (by decide +kernel)
theorem tW2 {a : Pr} (ha : a = (fp qHx, fp qHy)) : pm a 189355229152301691842014874267105580829 = (fp Y62, fp Y63) := J7t ha V65 V66 V4f (by decide) (by decide +kernel)
theorem nG : J4d (fp qGx, fp qGy) = (fp qHx, fp qHy) := by decide +kernel
theorem aW : J14 (fp Y60, fp Y61) (fp Y62, fp Y63) = (fp V4m, fp V4n) := V14 rfl rfl V4i V4j V4k V4l V16 V17 (by decide +kernel)
theorem sp1 : kN 1 = 41354757114163650016304086911142683682198188400503391378057401993857692208328 ∧ kD 1 = 74947656346158344409503503793437276329892731540947283120607119044439939905177 ∧ kP 1 = 114357819437381932551506943292233391401526845028636896338274259687389550464206 := Z2w (h1 := 8678345711762074483941435942459349315791744468269612026220829880717679751032992162212105630643471702240689105779349018571374047650718608606628566249376974) (Q37 (by decide +kernel)) (by decide +kernel) (by decide +kernel) (J95 tP V43 V44 (by decide +kernel))
theorem ca : J2d 114357819437381932551506943292233391401526845028636896338274259687389550464206 [97] 0 = true ∧ J22 114357819437381932551506943292233391401526845028636896338274259687389550464206 [97] 0 = (fp qAx, fp qAy) := Z0v (h := 4217728401137996085136769034409487805852939532085486328493455349853149161186833495216620188908688633613128681065855967220427564136070603473464087361574932) (Vc := 94359226407308437487022878457640152932169771002923573564568754088511782737940) (Q37 (by decide +kernel)) (by decide +kernel) V46 V47 (by decide +kernel) Y7l (ta rfl) (Y2v rfl (by decide +kernel))
theorem cb : J2d 114357819437381932551506943292233391401526845028636896338274259687389550464206 [98] 0 = true ∧ J22 114357819437381932551506943292233391401526845028636896338274259687389550464206 [98] 0 = (fp qBx, fp qBy) := Z0v (h := 616082032838736440229054033691866983738947723987213580315641221012400015752405605581206817103919007263269839956216054564015079766058242509860130319916312) (Vc := 31454809416705925197151026446448411341732414034120726205309780028097122426136) (Q37 (by decide +kernel)) (by decide +kernel) V48 V49 (by decide +kernel) Y7m (tb rfl) (Y2v rfl (by decide +kernel))
theorem prf {h : Pr} (hh : h = (fp qAx, fp qAy)) : vK' 1 h = 3161791165370906722381511076698169585287567781214044859123769755562896188151 ∧ vC 1 h = 189355229152301691842014874267105580829 ∧ vN 1 h = 4468977000769298177449662360017992953311027276441274504179330820775322765732 :=
  Z7d (E := 74399666800855609539995230594525611469590768420960059636165510280092498592640) (G := 18696685970608254202361949891616185249678853724601089132532660764177179248217) (U := 10698877992207514302921899927584436771403796231390052444100648854606243683879) (W := 25127804734697795270971494780440874830326818899784732585710284858304774582977) (hk := 7933415268325076307271346314144494355142637304550576680828700674770017726477853738904922442346056435285655651424819270612212731135168475110439682221851997) (hc := 13063749317693618417669880169613355355953181294424221209471115007105793069900072920294027680970886204668055256065792387961984747987670934027457557955041053) sp1.1 sp1.2.1 sp1.2.2 (J95 hh Y5y Y5z (by decide +kernel)) (Q37 (by decide +kernel)) (by decide +kernel) (J95 (tG hh) V4d V4e (by decide +kernel)) (J95 tU V4g V4h (by decide +kernel)) (J95 (tW hh) V67 V68 (by decide +kernel))
    (Q37 (by decide +kernel)) (by decide +kernel) (by decide +kernel)
theorem wrg {h b : Pr} (hh : h = (fp qAx, fp qAy)) (hb : b = (fp qBx, fp qBy)) : ¬ Q2f (kP 1) (vPr 1 h) b :=
  Z7e (E := 83404000008966784271212722212844385924515181945256394144601696818086361413314) (G := 18696685970608254202361949891616185249678853724601089132532660764177179248217) (U := 10698877992207514302921899927584436771403796231390052444100648854606243683879) (W := 99984043632414243169053148689583934881365467033368576763263247848500726085761) (hd := 6281280134693562258463763669867447912133814464242399964677319322490654154923754615745931622186191480769860810395302255569196722421205755927676107013356286) (C2 := 270988073588811713367589928953451772670) (hh ▸ Z0w) sp1.1 sp1.2.2 (prf hh).1 (prf hh).2.1 (prf hh).2.2 (J95 hb V4a V4b (by decide +kernel)) (J95 (tG hh) V4d V4e (by decide +kernel)) (J95 tU V4g V4h (by decide +kernel)) (J95 (by rw [tW1 hb, tG hh, nG, tW2 rfl, aW]) V4o V4p (by decide +kernel))
    (Q37 (by decide +kernel)) (by decide +kernel) (by decide +kernel)
theorem key1 : dOk (kP 1) = true ∧ ¬ pm (dPt (kP 1)) 8 = p0 := by
  have d := J8p (J63 Q0q (kN 1))
  refine ⟨d.1, ?_⟩
  rw [show dPt (kP 1) = pm BP (kN 1) from d.2, sp1.1]
  exact Y2v (tE tP) (by decide +kernel)
theorem vpa : vpt (kP 1) [97] = some 0 := by rw [sp1.2.2]; exact Z56 ca.1
theorem vpb : vpt (kP 1) [98] = some 0 := by rw [sp1.2.2]; exact Z56 cb.1
theorem ha_ : J22 (kP 1) [97] 0 = (fp qAx, fp qAy) := by rw [sp1.2.2]; exact ca.2
theorem hb_ : J22 (kP 1) [98] 0 = (fp qBx, fp qBy) := by rw [sp1.2.2]; exact cb.2
theorem V0y : Q2f (kP 1) (vPr 1 (J22 (kP 1) [97] 0)) (J22 (kP 1) [97] 0) := by rw [ha_]; exact Z2v Z0w ((tL rfl).trans V4q)
theorem V0z : ¬ Q2f (kP 1) (vPr 1 (J22 (kP 1) [97] 0)) (J22 (kP 1) [98] 0) := wrg ha_ hb_
end Go.Proofs.YtefpoollmbmkfaaDoor
