/- The facts of custumallaw09.proofs: a proof by the seed 1, and two texts. No conditions. -/
import Derived.Test.YtefpoollmbmkfaaDoorVf
import Derived.Test.YtefpoollmbmkfaaDoorSx
set_option linter.unusedSimpArgs false
set_option linter.unusedVariables false
namespace Go.Proofs.YtefpoollmbmkfaaDoor
open Sc (LL J21)
set_option maxRecDepth 100000
attribute [local irreducible] hs
theorem Q9e {b : Pr} (hb : OnC b) (h : pm b LL = p0) (n : Nat) : pm b (n % LL) = pm b n := by
  have h1 := Nat.div_add_mod n LL
  have e : pm b n = J14 (pm b (LL * (n / LL))) (pm b (n % LL)) := by rw [← Q5p hb, h1]
  rw [e, Z1n hb, h, Y6v, Q4a]
theorem Z5g {b : Pr} (hb : OnC b) (h : pm b LL = p0) (K C N : Nat) : J14 (pm b ((K % LL + C % LL * (N % LL) % LL) % LL)) (pm (J4c (pm b N)) C) = pm b (K % LL) := by
  have e1 : pm b ((K % LL + C % LL * (N % LL) % LL) % LL) = J14 (pm b (K % LL)) (pm (pm b N) C) := by
    rw [Q9e hb h, Q5p hb, Q9e hb h, ← Nat.mul_mod, Q9e hb h, Nat.mul_comm C N, Z1n hb]
  rw [e1, Z3v, Q5o (J66 hb _) (J66 (J66 hb _) _) (Q49 (J66 (J66 hb _) _)), Z95 (J66 (J66 hb _) _), Z3u]
theorem V49 (S : Nat) (h : Pr) : vC S h < J28 := Nat.mod_lt _ (by decide)
theorem Y7q (S : Nat) (h : Pr) : vN S h < LL := Nat.mod_lt _ (by decide)
theorem Y33 {E C n : Nat} (hE : E < 2 ^ 256) (hC : C < J28) : pG (E + 2 ^ 256 * (C + J28 * n)) = E ∧ pC (E + 2 ^ 256 * (C + J28 * n)) = C ∧ pN (E + 2 ^ 256 * (C + J28 * n)) = n := by
  refine ⟨?_, ?_, ?_⟩
  · unfold pG; rw [Nat.add_mul_mod_self_left, Nat.mod_eq_of_lt hE]
  · unfold pC; rw [Nat.add_mul_div_left _ _ (Nat.two_pow_pos 256), Nat.div_eq_of_lt hE, Nat.zero_add, Nat.add_mul_mod_self_left, Nat.mod_eq_of_lt hC]
  · unfold pN; rw [Nat.add_mul_div_left _ _ (Nat.two_pow_pos 256), Nat.div_eq_of_lt hE, Nat.zero_add, Nat.add_mul_div_left _ _ (by decide), Nat.div_eq_of_lt hC, Nat.zero_add]
theorem Q0r {S : Nat} {h : Pr} (hon : OnC h) : pG (vPr S h) = enc (pm h (kN S)) ∧ pC (vPr S h) = vC S h ∧ pN (vPr S h) = vN S h := Y33 (J4r _) (V49 S h)
theorem Z32 {S : Nat} {h : Pr} (hon : OnC h) (hLL : pm h LL = p0) : Q2m (kP S) (vPr S h) h := by
  obtain ⟨e1, e2, e3⟩ := Q0r (S := S) hon
  have d1 : dPt (kP S) = pm BP (kN S) := (J8s (J66 Q0w _)).2
  have d2 : dPt (enc (pm h (kN S))) = pm h (kN S) := (J8s (J66 hon _)).2
  unfold Q2m
  rw [e1, e2, e3, d1, d2]
  unfold vN
  have g1 : ∀ b : Pr, OnC b → pm b LL = p0 → J14 (pm b ((vK' S h + vC S h % LL * (kN S % LL) % LL) % LL)) (pm (J4c (pm b (kN S))) (vC S h)) = pm b (vK' S h) := fun b hb hl => Z5g hb hl _ _ _
  rw [g1 BP Q0w Y7a, g1 h hon hLL]
  rfl
theorem J7w {a : Pr} {xa ya n x y : Nat} (ha : a = (fp xa, fp ya)) (hx : xa < PP) (hy : ya < PP) (hon : OnC (fp xa, fp ya)) (hn : n < 2 ^ 256)
    (h : x * (tmN (xa, ya, 1, xa * ya % PP) n 256).2.2.1 % PP = (tmN (xa, ya, 1, xa * ya % PP) n 256).1 ∧ y * (tmN (xa, ya, 1, xa * ya % PP) n 256).2.2.1 % PP = (tmN (xa, ya, 1, xa * ya % PP) n 256).2.1) : pm a n = (fp x, fp y) := by
  subst ha
  exact Y1u (Y0h (P := (xa, ya, 1, xa * ya % PP)) (Q6p hx hy hon rfl) hn) h.1 h.2
theorem J99 {a : Pr} {x y e : Nat} (ha : a = (fp x, fp y)) (hx : x < PP) (hy : y < PP) (he : y + 2 ^ 255 * (x % 2) = e) : enc a = e := by rw [ha, Z54 hx hy, he]
theorem V1d {a b : Pr} {x1 y1 x2 y2 x y : Nat} (ha : a = (fp x1, fp y1)) (hb : b = (fp x2, fp y2)) (hx1 : x1 < PP) (hy1 : y1 < PP) (hx2 : x2 < PP) (hy2 : y2 < PP) (o1 : OnC (fp x1, fp y1)) (o2 : OnC (fp x2, fp y2))
    (h : x * (adN (x1, y1, 1, x1 * y1 % PP) (x2, y2, 1, x2 * y2 % PP)).2.2.1 % PP = (adN (x1, y1, 1, x1 * y1 % PP) (x2, y2, 1, x2 * y2 % PP)).1 ∧ y * (adN (x1, y1, 1, x1 * y1 % PP) (x2, y2, 1, x2 * y2 % PP)).2.2.1 % PP = (adN (x1, y1, 1, x1 * y1 % PP) (x2, y2, 1, x2 * y2 % PP)).2.1) : J14 a b = (fp x, fp y) := by
  subst ha hb
  exact Y1u (Y78 (s := (x1, y1, 1, x1 * y1 % PP)) (t := (x2, y2, 1, x2 * y2 % PP)) (Q6p hx1 hy1 o1 rfl) (Q6p hx2 hy2 o2 rfl)) h.1 h.2
theorem Y34 {a : Pr} {x y : Nat} (ha : a = (fp x, fp y)) (h : (y % PP == 1) = false) : ¬ a = p0 := by
  intro e
  rw [ha] at e
  have e2 : fp y = (1 : Fp) := congrArg Prod.snd e
  have e3 := congrArg Fin.val e2
  rw [Q8i] at e3
  have e4 : y % PP = 1 := e3
  rw [e4] at h; cases h
theorem Z11 {V c h Vc xq yq : Nat} {L : List UInt8} {a : Pr} (eh : hs ([3, 1] ++ lb 32 V ++ L ++ [u8 c, 0]) = h) (ec : lo h = Vc) (hx : xq < PP) (hy : yq < PP) (he : yq + 2 ^ 255 * (xq % 2) = Vc) (hon : OnC (fp xq, fp yq)) (h8 : pm (fp xq, fp yq) 8 = a) (hne : ¬ a = p0) :
    J2a V L c = true ∧ J22 V L c = a := by
  have e : J3w V L c = enc (fp xq, fp yq) := by unfold J3w; rw [eh, ec, Z54 hx hy, he]
  obtain ⟨d1, d2⟩ := J8s hon
  have e8 : J22 V L c = a := by unfold J22; rw [e, d2, h8]
  exact ⟨candOk_iff.2 ⟨by rw [e]; exact d1, by rw [e8]; exact hne⟩, e8⟩
theorem Z5h {V : Nat} {L : List UInt8} (h : J2a V L 0 = true) : vpt V L = some 0 := by
  unfold vpt
  show Z0y V L (255 + 1) 0 = some 0
  unfold Z0y
  rw [if_pos h]
theorem Z33 {S h1 N D P : Nat} (e : hs (lb 32 S) = h1) (eN : clN (lo h1) = N) (eD : hi h1 = D) (eP : enc (pm BP N) = P) : kN S = N ∧ kD S = D ∧ kP S = P := by
  subst e eN eD eP; exact ⟨rfl, rfl, rfl⟩
theorem Z7o {S N D P E G U W hk K hc C n : Nat} {h : Pr} (eN : kN S = N) (eD : kD S = D) (eP : kP S = P) (eE : enc h = E) (ek : hs (lb 32 D ++ lb 32 E) = hk) (ek2 : hk % LL = K) (eG : enc (pm h N) = G) (eU : enc (pm BP K) = U) (eW : enc (pm h K) = W)
    (ec : hs ([3, 2] ++ lb 32 P ++ lb 32 E ++ lb 32 G ++ lb 32 U ++ lb 32 W ++ [0]) = hc) (ec2 : hc % J28 = C) (en : (K + C % LL * (N % LL) % LL) % LL = n) : vK' S h = K ∧ vC S h = C ∧ vN S h = n := by
  have k1 : vK' S h = K := by unfold vK'; rw [eD, eE, ek, ek2]
  have k2 : vC S h = C := by unfold vC ch chH; rw [k1, eN, eP, eE, eG, eU, eW, ec, ec2]
  exact ⟨k1, k2, by unfold vN; rw [k1, k2, eN, en]⟩
theorem Z7p {S N P E G U W hd C C2 n K : Nat} {h b : Pr} (hon : OnC h) (eN : kN S = N) (eP : kP S = P) (k1 : vK' S h = K) (k2 : vC S h = C) (k3 : vN S h = n) (eE : enc b = E) (eG : enc (pm h N) = G) (eU : enc (pm BP K) = U) (eW : enc (J14 (pm b n) (pm (J4c (pm h N)) C)) = W)
    (ec : hs ([3, 2] ++ lb 32 P ++ lb 32 E ++ lb 32 G ++ lb 32 U ++ lb 32 W ++ [0]) = hd) (ec2 : hd % J28 = C2) (hne : ¬ C2 = C) : ¬ Q2m (kP S) (vPr S h) b := by
  obtain ⟨e1, e2, e3⟩ := Q0r (S := S) hon
  have d1 : dPt (kP S) = pm BP (kN S) := (J8s (J66 Q0w _)).2
  have d2 : dPt (enc (pm h (kN S))) = pm h (kN S) := (J8s (J66 hon _)).2
  have g1 : J14 (pm BP (vN S h)) (pm (J4c (pm BP (kN S))) (vC S h)) = pm BP (vK' S h) := Z5g Q0w Y7a _ _ _
  intro ht
  unfold Q2m at ht
  rw [e1, e2, e3, d1, d2, g1] at ht
  unfold ch chH at ht
  rw [eP, k1, k2, k3, eN, eE, eG, eU, eW, ec, ec2] at ht
  exact hne ht
def qPx : Nat := 26822555233711949854380153315158647482531717314742952720223963642152101436051
def qPy : Nat := 56461774818723834839721450787889437474891852695816614318545467683432985644238
theorem V4a : qPx < PP := by decide
theorem V4b : qPy < PP := by decide
theorem V4c : OnC (fp qPx, fp qPy) := by unfold OnC; decide +kernel
def qax : Nat := 47024039051628811779107516702321879712624584126105895814772064878575390995579
def qay : Nat := 36463181788650339775237385953296199005534778670103291544839962084555217917972
theorem V4d : qax < PP := by decide
theorem V4e : qay < PP := by decide
theorem Y7r : OnC (fp qax, fp qay) := by unfold OnC; decide +kernel
def qbx : Nat := 5347412701449414475638337812612804166351006483222583960086511109711120593916
def qby : Nat := 31454809416705925197151026446448411341732414034120726205309780028097122426136
theorem V4f : qbx < PP := by decide
theorem V4g : qby < PP := by decide
theorem Y7s : OnC (fp qbx, fp qby) := by unfold OnC; decide +kernel
def qAx : Nat := 4469178358068918509625982920184479197551857748499590235157424197441462617855
def qAy : Nat := 16503622182197511828209738090181657542955776088139777616436718276135933772672
theorem Y64 : qAx < PP := by decide
theorem Y65 : qAy < PP := by decide
theorem Z12 : OnC (fp qAx, fp qAy) := by unfold OnC; decide +kernel
def qBx : Nat := 5974376345347396749938987862407457246551996092567368546225745622563519485233
def qBy : Nat := 25507955390308686559427229708500431997880189612436112124872904814129796593346
theorem V4h : qBx < PP := by decide
theorem V4i : qBy < PP := by decide
theorem V4j : OnC (fp qBx, fp qBy) := by unfold OnC; decide +kernel
def qGx : Nat := 52849512371216097416144070854348002339830276853655352174081457955876419264926
def qGy : Nat := 18696685970608254202361949891616185249678853724601089132532660764177179248217
theorem V4k : qGx < PP := by decide
theorem V4l : qGy < PP := by decide
def qHx : Nat := 5046532247442000295641421649995951586804715479164929845647334048080145555023
def qHy : Nat := 18696685970608254202361949891616185249678853724601089132532660764177179248217
theorem V6d : qHx < PP := by decide
theorem V6e : qHy < PP := by decide
theorem V4m : OnC (fp qHx, fp qHy) := by unfold OnC; decide +kernel
def qUx : Nat := 34041848190338174590199495275267166861103803162117913164112832323681138233462
def qUy : Nat := 10698877992207514302921899927584436771403796231390052444100648854606243683879
theorem V4n : qUx < PP := by decide
theorem V4o : qUy < PP := by decide
def qWx : Nat := 54216188195815484947427281557918180183775820976694042062661435957267160522392
def qWy : Nat := 25127804734697795270971494780440874830326818899784732585710284858304774582977
theorem V6f : qWx < PP := by decide
theorem V6g : qWy < PP := by decide
def Y66 : Nat := 15305460063662360849636066956607517872801195214844971600126247347963246928219
def Y67 : Nat := 33063317137921983270192251169376104506385357643234122421449905331893286617428
theorem V4p : Y66 < PP := by decide
theorem V4q : Y67 < PP := by decide
theorem V1f : OnC (fp Y66, fp Y67) := by unfold OnC; decide +kernel
def Y68 : Nat := 9801310404785320244818855751587982283057879391861629553288258005068067321999
def Y69 : Nat := 34371539319246345432998495076013424602850629991217940145977496407126046607418
theorem V4r : Y68 < PP := by decide
theorem V4s : Y69 < PP := by decide
theorem V1g : OnC (fp Y68, fp Y69) := by unfold OnC; decide +kernel
def V4t : Nat := 22801831497374732990026139424660372227231082220795440041409309073464833047447
def V4u : Nat := 42087999013756145457267656185239980954730474700548294743534455844544161265793
theorem V4v : V4t < PP := by decide
theorem V4w : V4u < PP := by decide
def qEx : Nat := 15442730981594750838971302459575842918760929366015934280027366898552379046717
def qEy : Nat := 42218610869048474510830178928357113993860933435220319996272949481851902639999
def q0x : Nat := 0
def q0y : Nat := 1
theorem V4x : (fp q0x, fp q0y) = p0 := by decide +kernel
theorem tP : pm BP 41354757114163650016304086911142683682198188400503391378057401993857692208328 = (fp qPx, fp qPy) := J7w (xa := BX) (ya := BY) rfl (by decide) (by decide) Q0w (by decide) (by decide +kernel)
theorem tU : pm BP 3161791165370906722381511076698169585287567781214044859123769755562896188151 = (fp qUx, fp qUy) := J7w (xa := BX) (ya := BY) rfl (by decide) (by decide) Q0w (by decide) (by decide +kernel)
theorem tE {a : Pr} (ha : a = (fp qPx, fp qPy)) : pm a 8 = (fp qEx, fp qEy) := J7w ha V4a V4b V4c (by decide) (by decide +kernel)
theorem ta {a : Pr} (ha : a = (fp qax, fp qay)) : pm a 8 = (fp qAx, fp qAy) := J7w ha V4d V4e Y7r (by decide) (by decide +kernel)
theorem tb {a : Pr} (ha : a = (fp qbx, fp qby)) : pm a 8 = (fp qBx, fp qBy) := J7w ha V4f V4g Y7s (by decide) (by decide +kernel)
theorem tL {a : Pr} (ha : a = (fp qAx, fp qAy)) : pm a 7237005577332262213973186563042994240857116359379907606001950938285454250989 = (fp q0x, fp q0y) := J7w ha Y64 Y65 Z12 (by decide) (by decide +kernel)
theorem tG {a : Pr} (ha : a = (fp qAx, fp qAy)) : pm a 41354757114163650016304086911142683682198188400503391378057401993857692208328 = (fp qGx, fp qGy) := J7w ha Y64 Y65 Z12 (by decide) (by decide +kernel)
theorem tW {a : Pr} (ha : a = (fp qAx, fp qAy)) : pm a 3161791165370906722381511076698169585287567781214044859123769755562896188151 = (fp qWx, fp qWy) := J7w ha Y64 Y65 Z12 (by decide) (by decide +kernel)
theorem tW1 {a : Pr} (ha : a = (fp qBx, fp qBy)) : pm a 4468977000769298177449662360017992953311027276441274504179330820775322765732 = (fp Y66, fp Y67) := J7w ha V4h V4i V4j (by decide) (by decide +kernel)
theorem tW2 {a : Pr} (ha : a = (fp qHx, fp qHy)) : pm a 189355229152301691842014874267105580829 = (fp Y68, fp Y69) := J7w ha V6d V6e V4m (by decide) (by decide +kernel)
theorem nG : J4c (fp qGx, fp qGy) = (fp qHx, fp qHy) := by decide +kernel
theorem aW : J14 (fp Y66, fp Y67) (fp Y68, fp Y69) = (fp V4t, fp V4u) := V1d rfl rfl V4p V4q V4r V4s V1f V1g (by decide +kernel)
theorem sp1 : kN 1 = 41354757114163650016304086911142683682198188400503391378057401993857692208328 ∧ kD 1 = 74947656346158344409503503793437276329892731540947283120607119044439939905177 ∧ kP 1 = 114357819437381932551506943292233391401526845028636896338274259687389550464206 := Z33 (h1 := 8678345711762074483941435942459349315791744468269612026220829880717679751032992162212105630643471702240689105779349018571374047650718608606628566249376974) (Q3d (by decide +kernel)) (by decide +kernel) (by decide +kernel) (J99 tP V4a V4b (by decide +kernel))
theorem ca : J2a 114357819437381932551506943292233391401526845028636896338274259687389550464206 [97] 0 = true ∧ J22 114357819437381932551506943292233391401526845028636896338274259687389550464206 [97] 0 = (fp qAx, fp qAy) := Z11 (h := 4217728401137996085136769034409487805852939532085486328493455349853149161186833495216620188908688633613128681065855967220427564136070603473464087361574932) (Vc := 94359226407308437487022878457640152932169771002923573564568754088511782737940) (Q3d (by decide +kernel)) (by decide +kernel) V4d V4e (by decide +kernel) Y7r (ta rfl) (Y34 rfl (by decide +kernel))
theorem cb : J2a 114357819437381932551506943292233391401526845028636896338274259687389550464206 [98] 0 = true ∧ J22 114357819437381932551506943292233391401526845028636896338274259687389550464206 [98] 0 = (fp qBx, fp qBy) := Z11 (h := 616082032838736440229054033691866983738947723987213580315641221012400015752405605581206817103919007263269839956216054564015079766058242509860130319916312) (Vc := 31454809416705925197151026446448411341732414034120726205309780028097122426136) (Q3d (by decide +kernel)) (by decide +kernel) V4f V4g (by decide +kernel) Y7s (tb rfl) (Y34 rfl (by decide +kernel))
theorem prf {h : Pr} (hh : h = (fp qAx, fp qAy)) : vK' 1 h = 3161791165370906722381511076698169585287567781214044859123769755562896188151 ∧ vC 1 h = 189355229152301691842014874267105580829 ∧ vN 1 h = 4468977000769298177449662360017992953311027276441274504179330820775322765732 :=
  Z7o (E := 74399666800855609539995230594525611469590768420960059636165510280092498592640) (G := 18696685970608254202361949891616185249678853724601089132532660764177179248217) (U := 10698877992207514302921899927584436771403796231390052444100648854606243683879) (W := 25127804734697795270971494780440874830326818899784732585710284858304774582977) (hk := 7933415268325076307271346314144494355142637304550576680828700674770017726477853738904922442346056435285655651424819270612212731135168475110439682221851997) (hc := 13063749317693618417669880169613355355953181294424221209471115007105793069900072920294027680970886204668055256065792387961984747987670934027457557955041053) sp1.1 sp1.2.1 sp1.2.2 (J99 hh Y64 Y65 (by decide +kernel)) (Q3d (by decide +kernel)) (by decide +kernel) (J99 (tG hh) V4k V4l (by decide +kernel)) (J99 tU V4n V4o (by decide +kernel)) (J99 (tW hh) V6f V6g (by decide +kernel))
    (Q3d (by decide +kernel)) (by decide +kernel) (by decide +kernel)
theorem wrg {h b : Pr} (hh : h = (fp qAx, fp qAy)) (hb : b = (fp qBx, fp qBy)) : ¬ Q2m (kP 1) (vPr 1 h) b :=
  Z7p (E := 83404000008966784271212722212844385924515181945256394144601696818086361413314) (G := 18696685970608254202361949891616185249678853724601089132532660764177179248217) (U := 10698877992207514302921899927584436771403796231390052444100648854606243683879) (W := 99984043632414243169053148689583934881365467033368576763263247848500726085761) (hd := 6281280134693562258463763669867447912133814464242399964677319322490654154923754615745931622186191480769860810395302255569196722421205755927676107013356286) (C2 := 270988073588811713367589928953451772670) (hh ▸ Z12) sp1.1 sp1.2.2 (prf hh).1 (prf hh).2.1 (prf hh).2.2 (J99 hb V4h V4i (by decide +kernel)) (J99 (tG hh) V4k V4l (by decide +kernel)) (J99 tU V4n V4o (by decide +kernel)) (J99 (by rw [tW1 hb, tG hh, nG, tW2 rfl, aW]) V4v V4w (by decide +kernel))
    (Q3d (by decide +kernel)) (by decide +kernel) (by decide +kernel)
theorem key1 : dOk (kP 1) = true ∧ ¬ pm (dPt (kP 1)) 8 = p0 := by
  have d := J8s (J66 Q0w (kN 1))
  refine ⟨d.1, ?_⟩
  rw [show dPt (kP 1) = pm BP (kN 1) from d.2, sp1.1]
  exact Y34 (tE tP) (by decide +kernel)
theorem vpa : vpt (kP 1) [97] = some 0 := by rw [sp1.2.2]; exact Z5h ca.1
theorem vpb : vpt (kP 1) [98] = some 0 := by rw [sp1.2.2]; exact Z5h cb.1
theorem ha_ : J22 (kP 1) [97] 0 = (fp qAx, fp qAy) := by rw [sp1.2.2]; exact ca.2
theorem hb_ : J22 (kP 1) [98] 0 = (fp qBx, fp qBy) := by rw [sp1.2.2]; exact cb.2
theorem V16 : Q2m (kP 1) (vPr 1 (J22 (kP 1) [97] 0)) (J22 (kP 1) [97] 0) := by rw [ha_]; exact Z32 Z12 ((tL rfl).trans V4x)
theorem V17 : ¬ Q2m (kP 1) (vPr 1 (J22 (kP 1) [97] 0)) (J22 (kP 1) [98] 0) := wrg ha_ hb_
end Go.Proofs.YtefpoollmbmkfaaDoor
