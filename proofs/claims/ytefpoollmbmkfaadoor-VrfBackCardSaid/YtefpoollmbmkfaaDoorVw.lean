/- The facts of custumallaw09.proofs: a proof by the seed 1, and two texts. No conditions. -/
import Derived.Test.YtefpoollmbmkfaaDoorVf
import Derived.Test.YtefpoollmbmkfaaDoorSx
set_option linter.unusedSimpArgs false
set_option linter.unusedVariables false
namespace Go.Proofs.YtefpoollmbmkfaaDoor
open Sc (LL J0p)
set_option maxRecDepth 100000
attribute [local irreducible] hs
theorem Q3n {b : Pr} (hb : OnC b) (h : pm b LL = p0) (n : Nat) : pm b (n % LL) = pm b n := by
  have h1 := Nat.div_add_mod n LL
  have e : pm b n = V5 (pm b (LL * (n / LL))) (pm b (n % LL)) := by rw [← J7w hb, h1]
  rw [e, J7x hb, h, Q6t, J8e]
theorem Q80 {b : Pr} (hb : OnC b) (h : pm b LL = p0) (K C N : Nat) : V5 (pm b ((K % LL + C % LL * (N % LL) % LL) % LL)) (pm (J2t (pm b N)) C) = pm b (K % LL) := by
  have e1 : pm b ((K % LL + C % LL * (N % LL) % LL) % LL) = V5 (pm b (K % LL)) (pm (pm b N) C) := by
    rw [Q3n hb h, J7w hb, Q3n hb h, ← Nat.mul_mod, Q3n hb h, Nat.mul_comm C N, J7x hb]
  rw [e1, Q6u, J1b (J2m hb _) (J2m (J2m hb _) _) (J61 (J2m (J2m hb _) _)), J8f (J2m (J2m hb _) _), J8g]
theorem Y45 (S : Nat) (h : Pr) : vC S h < J1w := Nat.mod_lt _ (by decide)
theorem Z3q (S : Nat) (h : Pr) : vN S h < LL := Nat.mod_lt _ (by decide)
theorem Z43 {E C n : Nat} (hE : E < 2 ^ 256) (hC : C < J1w) : pG (E + 2 ^ 256 * (C + J1w * n)) = E ∧ pC (E + 2 ^ 256 * (C + J1w * n)) = C ∧ pN (E + 2 ^ 256 * (C + J1w * n)) = n := by
  refine ⟨?_, ?_, ?_⟩
  · unfold pG; rw [Nat.add_mul_mod_self_left, Nat.mod_eq_of_lt hE]
  · unfold pC; rw [Nat.add_mul_div_left _ _ (Nat.two_pow_pos 256), Nat.div_eq_of_lt hE, Nat.zero_add, Nat.add_mul_mod_self_left, Nat.mod_eq_of_lt hC]
  · unfold pN; rw [Nat.add_mul_div_left _ _ (Nat.two_pow_pos 256), Nat.div_eq_of_lt hE, Nat.zero_add, Nat.add_mul_div_left _ _ (by decide), Nat.div_eq_of_lt hC, Nat.zero_add]
theorem J5v {S : Nat} {h : Pr} (hon : OnC h) : pG (vPr S h) = enc (pm h (kN S)) ∧ pC (vPr S h) = vC S h ∧ pN (vPr S h) = vN S h := Z43 (J4m _) (Y45 S h)
theorem Q1c {S : Nat} {h : Pr} (hon : OnC h) (hLL : pm h LL = p0) : J8w (kP S) (vPr S h) h := by
  obtain ⟨e1, e2, e3⟩ := J5v (S := S) hon
  have d1 : dPt (kP S) = pm BP (kN S) := (J36 (J2m J6f _)).2
  have d2 : dPt (enc (pm h (kN S))) = pm h (kN S) := (J36 (J2m hon _)).2
  unfold J8w
  rw [e1, e2, e3, d1, d2]
  unfold vN
  have g1 : ∀ b : Pr, OnC b → pm b LL = p0 → V5 (pm b ((vK' S h + vC S h % LL * (kN S % LL) % LL) % LL)) (pm (J2t (pm b (kN S))) (vC S h)) = pm b (vK' S h) := fun b hb hl => Q80 hb hl _ _ _
  rw [g1 BP J6f Z2a, g1 h hon hLL]
  rfl
theorem J3o {a : Pr} {xa ya n x y : Nat} (ha : a = (fp xa, fp ya)) (hx : xa < PP) (hy : ya < PP) (hon : OnC (fp xa, fp ya)) (hn : n < 2 ^ 256)
    (h : x * (tmN (xa, ya, 1, xa * ya % PP) n 256).2.2.1 % PP = (tmN (xa, ya, 1, xa * ya % PP) n 256).1 ∧ y * (tmN (xa, ya, 1, xa * ya % PP) n 256).2.2.1 % PP = (tmN (xa, ya, 1, xa * ya % PP) n 256).2.1) : pm a n = (fp x, fp y) := by
  subst ha
  exact Z33 (Z29 (P := (xa, ya, 1, xa * ya % PP)) (Q3v hx hy hon rfl) hn) h.1 h.2
theorem J6d {a : Pr} {x y e : Nat} (ha : a = (fp x, fp y)) (hx : x < PP) (hy : y < PP) (he : y + 2 ^ 255 * (x % 2) = e) : enc a = e := by rw [ha, Q7o hx hy, he]
theorem Y1f {a b : Pr} {x1 y1 x2 y2 x y : Nat} (ha : a = (fp x1, fp y1)) (hb : b = (fp x2, fp y2)) (hx1 : x1 < PP) (hy1 : y1 < PP) (hx2 : x2 < PP) (hy2 : y2 < PP) (o1 : OnC (fp x1, fp y1)) (o2 : OnC (fp x2, fp y2))
    (h : x * (adN (x1, y1, 1, x1 * y1 % PP) (x2, y2, 1, x2 * y2 % PP)).2.2.1 % PP = (adN (x1, y1, 1, x1 * y1 % PP) (x2, y2, 1, x2 * y2 % PP)).1 ∧ y * (adN (x1, y1, 1, x1 * y1 % PP) (x2, y2, 1, x2 * y2 % PP)).2.2.1 % PP = (adN (x1, y1, 1, x1 * y1 % PP) (x2, y2, 1, x2 * y2 % PP)).2.1) : V5 a b = (fp x, fp y) := by
  subst ha hb
  exact Z33 (Z7t (s := (x1, y1, 1, x1 * y1 % PP)) (t := (x2, y2, 1, x2 * y2 % PP)) (Q3v hx1 hy1 o1 rfl) (Q3v hx2 hy2 o2 rfl)) h.1 h.2
theorem Q2i {a : Pr} {x y : Nat} (ha : a = (fp x, fp y)) (h : (y % PP == 1) = false) : ¬ a = p0 := by
  intro e
  rw [ha] at e
  have e2 : fp y = (1 : Fp) := congrArg Prod.snd e
  have e3 := congrArg Fin.val e2
  rw [Q2w] at e3
  have e4 : y % PP = 1 := e3
  rw [e4] at h; cases h
theorem Q4s {V c h Vc xq yq : Nat} {L : List UInt8} {a : Pr} (eh : hs ([3, 1] ++ lb 32 V ++ L ++ [u8 c, 0]) = h) (ec : lo h = Vc) (hx : xq < PP) (hy : yq < PP) (he : yq + 2 ^ 255 * (xq % 2) = Vc) (hon : OnC (fp xq, fp yq)) (h8 : pm (fp xq, fp yq) 8 = a) (hne : ¬ a = p0) :
    J1i V L c = true ∧ J0k V L c = a := by
  have e : J59 V L c = enc (fp xq, fp yq) := by unfold J59; rw [eh, ec, Q7o hx hy, he]
  obtain ⟨d1, d2⟩ := J36 hon
  have e8 : J0k V L c = a := by unfold J0k; rw [e, d2, h8]
  exact ⟨candOk_iff.2 ⟨by rw [e]; exact d1, by rw [e8]; exact hne⟩, e8⟩
theorem Q81 {V : Nat} {L : List UInt8} (h : J1i V L 0 = true) : vpt V L = some 0 := by
  unfold vpt
  show Q4n V L (255 + 1) 0 = some 0
  unfold Q4n
  rw [if_pos h]
theorem Q6d {S h1 N D P : Nat} (e : hs (lb 32 S) = h1) (eN : clN (lo h1) = N) (eD : hi h1 = D) (eP : enc (pm BP N) = P) : kN S = N ∧ kD S = D ∧ kP S = P := by
  subst e eN eD eP; exact ⟨rfl, rfl, rfl⟩
theorem Q9x {S N D P E G U W hk K hc C n : Nat} {h : Pr} (eN : kN S = N) (eD : kD S = D) (eP : kP S = P) (eE : enc h = E) (ek : hs (lb 32 D ++ lb 32 E) = hk) (ek2 : hk % LL = K) (eG : enc (pm h N) = G) (eU : enc (pm BP K) = U) (eW : enc (pm h K) = W)
    (ec : hs ([3, 2] ++ lb 32 P ++ lb 32 E ++ lb 32 G ++ lb 32 U ++ lb 32 W ++ [0]) = hc) (ec2 : hc % J1w = C) (en : (K + C % LL * (N % LL) % LL) % LL = n) : vK' S h = K ∧ vC S h = C ∧ vN S h = n := by
  have k1 : vK' S h = K := by unfold vK'; rw [eD, eE, ek, ek2]
  have k2 : vC S h = C := by unfold vC ch chH; rw [k1, eN, eP, eE, eG, eU, eW, ec, ec2]
  exact ⟨k1, k2, by unfold vN; rw [k1, k2, eN, en]⟩
theorem Q9y {S N P E G U W hd C C2 n K : Nat} {h b : Pr} (hon : OnC h) (eN : kN S = N) (eP : kP S = P) (k1 : vK' S h = K) (k2 : vC S h = C) (k3 : vN S h = n) (eE : enc b = E) (eG : enc (pm h N) = G) (eU : enc (pm BP K) = U) (eW : enc (V5 (pm b n) (pm (J2t (pm h N)) C)) = W)
    (ec : hs ([3, 2] ++ lb 32 P ++ lb 32 E ++ lb 32 G ++ lb 32 U ++ lb 32 W ++ [0]) = hd) (ec2 : hd % J1w = C2) (hne : ¬ C2 = C) : ¬ J8w (kP S) (vPr S h) b := by
  obtain ⟨e1, e2, e3⟩ := J5v (S := S) hon
  have d1 : dPt (kP S) = pm BP (kN S) := (J36 (J2m J6f _)).2
  have d2 : dPt (enc (pm h (kN S))) = pm h (kN S) := (J36 (J2m hon _)).2
  have g1 : V5 (pm BP (vN S h)) (pm (J2t (pm BP (kN S))) (vC S h)) = pm BP (vK' S h) := Q80 J6f Z2a _ _ _
  intro ht
  unfold J8w at ht
  rw [e1, e2, e3, d1, d2, g1] at ht
  unfold ch chH at ht
  rw [eP, k1, k2, k3, eN, eE, eG, eU, eW, ec, ec2] at ht
  exact hne ht
def qPx : Nat := 26822555233711949854380153315158647482531717314742952720223963642152101436051
def qPy : Nat := 56461774818723834839721450787889437474891852695816614318545467683432985644238
theorem Y46 : qPx < PP := by decide
theorem Y47 : qPy < PP := by decide
theorem Y48 : OnC (fp qPx, fp qPy) := by unfold OnC; decide +kernel
def qax : Nat := 47024039051628811779107516702321879712624584126105895814772064878575390995579
def qay : Nat := 36463181788650339775237385953296199005534778670103291544839962084555217917972
theorem Y49 : qax < PP := by decide
theorem Y4a : qay < PP := by decide
theorem Z87 : OnC (fp qax, fp qay) := by unfold OnC; decide +kernel
def qbx : Nat := 5347412701449414475638337812612804166351006483222583960086511109711120593916
def qby : Nat := 31454809416705925197151026446448411341732414034120726205309780028097122426136
theorem Y4b : qbx < PP := by decide
theorem Y4c : qby < PP := by decide
theorem Z88 : OnC (fp qbx, fp qby) := by unfold OnC; decide +kernel
def qAx : Nat := 4469178358068918509625982920184479197551857748499590235157424197441462617855
def qAy : Nat := 16503622182197511828209738090181657542955776088139777616436718276135933772672
theorem Z6w : qAx < PP := by decide
theorem Z6x : qAy < PP := by decide
theorem Q4t : OnC (fp qAx, fp qAy) := by unfold OnC; decide +kernel
def qBx : Nat := 5974376345347396749938987862407457246551996092567368546225745622563519485233
def qBy : Nat := 25507955390308686559427229708500431997880189612436112124872904814129796593346
theorem Y4d : qBx < PP := by decide
theorem Y4e : qBy < PP := by decide
theorem Y4f : OnC (fp qBx, fp qBy) := by unfold OnC; decide +kernel
def qGx : Nat := 52849512371216097416144070854348002339830276853655352174081457955876419264926
def qGy : Nat := 18696685970608254202361949891616185249678853724601089132532660764177179248217
theorem Y4g : qGx < PP := by decide
theorem Y4h : qGy < PP := by decide
def qHx : Nat := 5046532247442000295641421649995951586804715479164929845647334048080145555023
def qHy : Nat := 18696685970608254202361949891616185249678853724601089132532660764177179248217
theorem Y6g : qHx < PP := by decide
theorem Y6h : qHy < PP := by decide
theorem Y4i : OnC (fp qHx, fp qHy) := by unfold OnC; decide +kernel
def qUx : Nat := 34041848190338174590199495275267166861103803162117913164112832323681138233462
def qUy : Nat := 10698877992207514302921899927584436771403796231390052444100648854606243683879
theorem Y4j : qUx < PP := by decide
theorem Y4k : qUy < PP := by decide
def qWx : Nat := 54216188195815484947427281557918180183775820976694042062661435957267160522392
def qWy : Nat := 25127804734697795270971494780440874830326818899784732585710284858304774582977
theorem Y6i : qWx < PP := by decide
theorem Y6j : qWy < PP := by decide
def Z6y : Nat := 15305460063662360849636066956607517872801195214844971600126247347963246928219
def Z6z : Nat := 33063317137921983270192251169376104506385357643234122421449905331893286617428
theorem Y4l : Z6y < PP := by decide
theorem Y4m : Z6z < PP := by decide
theorem Y1h : OnC (fp Z6y, fp Z6z) := by unfold OnC; decide +kernel
def Z70 : Nat := 9801310404785320244818855751587982283057879391861629553288258005068067321999
def Z71 : Nat := 34371539319246345432998495076013424602850629991217940145977496407126046607418
theorem Y4n : Z70 < PP := by decide
theorem Y4o : Z71 < PP := by decide
theorem Y1i : OnC (fp Z70, fp Z71) := by unfold OnC; decide +kernel
def Y4p : Nat := 22801831497374732990026139424660372227231082220795440041409309073464833047447
def Y4q : Nat := 42087999013756145457267656185239980954730474700548294743534455844544161265793
theorem Y4r : Y4p < PP := by decide
theorem Y4s : Y4q < PP := by decide
def qEx : Nat := 15442730981594750838971302459575842918760929366015934280027366898552379046717
def qEy : Nat := 42218610869048474510830178928357113993860933435220319996272949481851902639999
def q0x : Nat := 0
def q0y : Nat := 1
theorem Z86 : (fp q0x, fp q0y) = p0 := by decide +kernel
theorem tP : pm BP 41354757114163650016304086911142683682198188400503391378057401993857692208328 = (fp qPx, fp qPy) := J3o (xa := BX) (ya := BY) rfl (by decide) (by decide) J6f (by decide) (by decide +kernel)
theorem tU : pm BP 3161791165370906722381511076698169585287567781214044859123769755562896188151 = (fp qUx, fp qUy) := J3o (xa := BX) (ya := BY) rfl (by decide) (by decide) J6f (by decide) (by decide +kernel)
theorem tE {a : Pr} (ha : a = (fp qPx, fp qPy)) : pm a 8 = (fp qEx, fp qEy) := J3o ha Y46 Y47 Y48 (by decide) (by decide +kernel)
theorem ta {a : Pr} (ha : a = (fp qax, fp qay)) : pm a 8 = (fp qAx, fp qAy) := J3o ha Y49 Y4a Z87 (by decide) (by decide +kernel)
theorem tb {a : Pr} (ha : a = (fp qbx, fp qby)) : pm a 8 = (fp qBx, fp qBy) := J3o ha Y4b Y4c Z88 (by decide) (by decide +kernel)
theorem tL {a : Pr} (ha : a = (fp qAx, fp qAy)) : pm a 7237005577332262213973186563042994240857116359379907606001950938285454250989 = (fp q0x, fp q0y) := J3o ha Z6w Z6x Q4t (by decide) (by decide +kernel)
theorem tG {a : Pr} (ha : a = (fp qAx, fp qAy)) : pm a 41354757114163650016304086911142683682198188400503391378057401993857692208328 = (fp qGx, fp qGy) := J3o ha Z6w Z6x Q4t (by decide) (by decide +kernel)
theorem tW {a : Pr} (ha : a = (fp qAx, fp qAy)) : pm a 3161791165370906722381511076698169585287567781214044859123769755562896188151 = (fp qWx, fp qWy) := J3o ha Z6w Z6x Q4t (by decide) (by decide +kernel)
theorem tW1 {a : Pr} (ha : a = (fp qBx, fp qBy)) : pm a 4468977000769298177449662360017992953311027276441274504179330820775322765732 = (fp Z6y, fp Z6z) := J3o ha Y4d Y4e Y4f (by decide) (by decide +kernel)
theorem tW2 {a : Pr} (ha : a = (fp qHx, fp qHy)) : pm a 189355229152301691842014874267105580829 = (fp Z70, fp Z71) := J3o ha Y6g Y6h Y4i (by decide) (by decide +kernel)
theorem nG : J2t (fp qGx, fp qGy) = (fp qHx, fp qHy) := by decide +kernel
theorem aW : V5 (fp Z6y, fp Z6z) (fp Z70, fp Z71) = (fp Y4p, fp Y4q) := Y1f rfl rfl Y4l Y4m Y4n Y4o Y1h Y1i (by decide +kernel)
theorem sp1 : kN 1 = 41354757114163650016304086911142683682198188400503391378057401993857692208328 ∧ kD 1 = 74947656346158344409503503793437276329892731540947283120607119044439939905177 ∧ kP 1 = 114357819437381932551506943292233391401526845028636896338274259687389550464206 := Q6d (h1 := 8678345711762074483941435942459349315791744468269612026220829880717679751032992162212105630643471702240689105779349018571374047650718608606628566249376974) (J9a (by decide +kernel)) (by decide +kernel) (by decide +kernel) (J6d tP Y46 Y47 (by decide +kernel))
theorem ca : J1i 114357819437381932551506943292233391401526845028636896338274259687389550464206 [97] 0 = true ∧ J0k 114357819437381932551506943292233391401526845028636896338274259687389550464206 [97] 0 = (fp qAx, fp qAy) := Q4s (h := 4217728401137996085136769034409487805852939532085486328493455349853149161186833495216620188908688633613128681065855967220427564136070603473464087361574932) (Vc := 94359226407308437487022878457640152932169771002923573564568754088511782737940) (J9a (by decide +kernel)) (by decide +kernel) Y49 Y4a (by decide +kernel) Z87 (ta rfl) (Q2i rfl (by decide +kernel))
theorem cb : J1i 114357819437381932551506943292233391401526845028636896338274259687389550464206 [98] 0 = true ∧ J0k 114357819437381932551506943292233391401526845028636896338274259687389550464206 [98] 0 = (fp qBx, fp qBy) := Q4s (h := 616082032838736440229054033691866983738947723987213580315641221012400015752405605581206817103919007263269839956216054564015079766058242509860130319916312) (Vc := 31454809416705925197151026446448411341732414034120726205309780028097122426136) (J9a (by decide +kernel)) (by decide +kernel) Y4b Y4c (by decide +kernel) Z88 (tb rfl) (Q2i rfl (by decide +kernel))
theorem prf {h : Pr} (hh : h = (fp qAx, fp qAy)) : vK' 1 h = 3161791165370906722381511076698169585287567781214044859123769755562896188151 ∧ vC 1 h = 189355229152301691842014874267105580829 ∧ vN 1 h = 4468977000769298177449662360017992953311027276441274504179330820775322765732 :=
  Q9x (E := 74399666800855609539995230594525611469590768420960059636165510280092498592640) (G := 18696685970608254202361949891616185249678853724601089132532660764177179248217) (U := 10698877992207514302921899927584436771403796231390052444100648854606243683879) (W := 25127804734697795270971494780440874830326818899784732585710284858304774582977) (hk := 7933415268325076307271346314144494355142637304550576680828700674770017726477853738904922442346056435285655651424819270612212731135168475110439682221851997) (hc := 13063749317693618417669880169613355355953181294424221209471115007105793069900072920294027680970886204668055256065792387961984747987670934027457557955041053) sp1.1 sp1.2.1 sp1.2.2 (J6d hh Z6w Z6x (by decide +kernel)) (J9a (by decide +kernel)) (by decide +kernel) (J6d (tG hh) Y4g Y4h (by decide +kernel)) (J6d tU Y4j Y4k (by decide +kernel)) (J6d (tW hh) Y6i Y6j (by decide +kernel))
    (J9a (by decide +kernel)) (by decide +kernel) (by decide +kernel)
theorem wrg {h b : Pr} (hh : h = (fp qAx, fp qAy)) (hb : b = (fp qBx, fp qBy)) : ¬ J8w (kP 1) (vPr 1 h) b :=
  Q9y (E := 83404000008966784271212722212844385924515181945256394144601696818086361413314) (G := 18696685970608254202361949891616185249678853724601089132532660764177179248217) (U := 10698877992207514302921899927584436771403796231390052444100648854606243683879) (W := 99984043632414243169053148689583934881365467033368576763263247848500726085761) (hd := 6281280134693562258463763669867447912133814464242399964677319322490654154923754615745931622186191480769860810395302255569196722421205755927676107013356286) (C2 := 270988073588811713367589928953451772670) (hh ▸ Q4t) sp1.1 sp1.2.2 (prf hh).1 (prf hh).2.1 (prf hh).2.2 (J6d hb Y4d Y4e (by decide +kernel)) (J6d (tG hh) Y4g Y4h (by decide +kernel)) (J6d tU Y4j Y4k (by decide +kernel)) (J6d (by rw [tW1 hb, tG hh, nG, tW2 rfl, aW]) Y4r Y4s (by decide +kernel))
    (J9a (by decide +kernel)) (by decide +kernel) (by decide +kernel)
theorem key1 : dOk (kP 1) = true ∧ ¬ pm (dPt (kP 1)) 8 = p0 := by
  have d := J36 (J2m J6f (kN 1))
  refine ⟨d.1, ?_⟩
  rw [show dPt (kP 1) = pm BP (kN 1) from d.2, sp1.1]
  exact Q2i (tE tP) (by decide +kernel)
theorem vpa : vpt (kP 1) [97] = some 0 := by rw [sp1.2.2]; exact Q81 ca.1
theorem vpb : vpt (kP 1) [98] = some 0 := by rw [sp1.2.2]; exact Q81 cb.1
theorem ha_ : J0k (kP 1) [97] 0 = (fp qAx, fp qAy) := by rw [sp1.2.2]; exact ca.2
theorem hb_ : J0k (kP 1) [98] 0 = (fp qBx, fp qBy) := by rw [sp1.2.2]; exact cb.2
theorem Y16 : J8w (kP 1) (vPr 1 (J0k (kP 1) [97] 0)) (J0k (kP 1) [97] 0) := by rw [ha_]; exact Q1c Q4t ((tL rfl).trans Z86)
theorem Y17 : ¬ J8w (kP 1) (vPr 1 (J0k (kP 1) [97] 0)) (J0k (kP 1) [98] 0) := wrg ha_ hb_
end Go.Proofs.YtefpoollmbmkfaaDoor
