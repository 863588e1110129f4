/- The facts of custumallaw09.proofs: a proof by the seed 1, and two texts. No conditions. -/
import Derived.Test.YtefpoollmbmkfaaDoorVf
import Derived.Test.YtefpoollmbmkfaaDoorSw
set_option linter.unusedSimpArgs false
set_option linter.unusedVariables false
namespace Go.Proofs.YtefpoollmbmkfaaDoor
open Sc (LL e9)
set_option maxRecDepth 100000
attribute [local irreducible] hs
theorem q8o {b : Pr} (hb : s8 b) (h : pm b LL = p0) (n : Nat) : pm b (n % LL) = pm b n := by
  have h1 := Nat.div_add_mod n LL
  have e : pm b n = u5 (pm b (LL * (n / LL))) (pm b (n % LL)) := by rw [← q0n hb, h1]
  rw [e, q0o hb, h, y2y, q1h]
theorem y4p {b : Pr} (hb : s8 b) (h : pm b LL = p0) (K C N : Nat) : u5 (pm b ((K % LL + C % LL * (N % LL) % LL) % LL)) (pm (G1 (pm b N)) C) = pm b (K % LL) := by
  have e1 : pm b ((K % LL + C % LL * (N % LL) % LL) % LL) = u5 (pm b (K % LL)) (pm (pm b N) C) := by
    rw [q8o hb h, q0n hb, q8o hb h, ← Nat.mul_mod, q8o hb h, Nat.mul_comm C N, q0o hb]
  rw [e1, y2z, o8 (J4 hb _) (J4 (J4 hb _) _) (I9 (J4 (J4 hb _) _)), q1i (J4 (J4 hb _) _), q1j]
theorem g6y (S : Nat) (h : Pr) : vC S h < p7 := Nat.mod_lt _ (by decide)
theorem j2n (S : Nat) (h : Pr) : vN S h < LL := Nat.mod_lt _ (by decide)
theorem j3a {E C n : Nat} (hE : E < 2 ^ 256) (hC : C < p7) : pG (E + 2 ^ 256 * (C + p7 * n)) = E ∧ pC (E + 2 ^ 256 * (C + p7 * n)) = C ∧ pN (E + 2 ^ 256 * (C + p7 * n)) = n := by
  refine ⟨?_, ?_, ?_⟩
  · unfold pG; rw [Nat.add_mul_mod_self_left, Nat.mod_eq_of_lt hE]
  · unfold pC; rw [Nat.add_mul_div_left _ _ (Nat.two_pow_pos 256), Nat.div_eq_of_lt hE, Nat.zero_add, Nat.add_mul_mod_self_left, Nat.mod_eq_of_lt hC]
  · unfold pN; rw [Nat.add_mul_div_left _ _ (Nat.two_pow_pos 256), Nat.div_eq_of_lt hE, Nat.zero_add, Nat.add_mul_div_left _ _ (by decide), Nat.div_eq_of_lt hC, Nat.zero_add]
theorem I3 {S : Nat} {h : Pr} (hon : s8 h) : pG (vPr S h) = t6 (pm h (kN S)) ∧ pC (vPr S h) = vC S h ∧ pN (vPr S h) = vN S h := j3a (B4 _) (g6y S h)
theorem q5j {S : Nat} {h : Pr} (hon : s8 h) (hLL : pm h LL = p0) : q1z (kP S) (vPr S h) h := by
  obtain ⟨e1, e2, e3⟩ := I3 (S := S) hon
  have d1 : B1 (kP S) = pm BP (kN S) := (Z8 (J4 O5 _)).2
  have d2 : B1 (t6 (pm h (kN S))) = pm h (kN S) := (Z8 (J4 hon _)).2
  unfold q1z
  rw [e1, e2, e3, d1, d2]
  unfold vN
  have g1 : ∀ b : Pr, s8 b → pm b LL = p0 → u5 (pm b ((vK' S h + vC S h % LL * (kN S % LL) % LL) % LL)) (pm (G1 (pm b (kN S))) (vC S h)) = pm b (vK' S h) := fun b hb hl => y4p hb hl _ _ _
  rw [g1 BP O5 j0n, g1 h hon hLL]
  rfl
theorem V5 {a : Pr} {xa ya n x y : Nat} (ha : a = (fp xa, fp ya)) (hx : xa < PP) (hy : ya < PP) (hon : s8 (fp xa, fp ya)) (hn : n < 2 ^ 256)
    (h : x * (tmN (xa, ya, 1, xa * ya % PP) n 256).2.2.1 % PP = (tmN (xa, ya, 1, xa * ya % PP) n 256).1 ∧ y * (tmN (xa, ya, 1, xa * ya % PP) n 256).2.2.1 % PP = (tmN (xa, ya, 1, xa * ya % PP) n 256).2.1) : pm a n = (fp x, fp y) := by
  subst ha
  exact j1q (j0m (P := (xa, ya, 1, xa * ya % PP)) (q8w hx hy hon rfl) hn) h.1 h.2
theorem O3 {a : Pr} {x y e : Nat} (ha : a = (fp x, fp y)) (hx : x < PP) (hy : y < PP) (he : y + 2 ^ 255 * (x % 2) = e) : t6 a = e := by rw [ha, y4d hx hy, he]
theorem g3e {a b : Pr} {x1 y1 x2 y2 x y : Nat} (ha : a = (fp x1, fp y1)) (hb : b = (fp x2, fp y2)) (hx1 : x1 < PP) (hy1 : y1 < PP) (hx2 : x2 < PP) (hy2 : y2 < PP) (o1 : s8 (fp x1, fp y1)) (o2 : s8 (fp x2, fp y2))
    (h : x * (adN (x1, y1, 1, x1 * y1 % PP) (x2, y2, 1, x2 * y2 % PP)).2.2.1 % PP = (adN (x1, y1, 1, x1 * y1 % PP) (x2, y2, 1, x2 * y2 % PP)).1 ∧ y * (adN (x1, y1, 1, x1 * y1 % PP) (x2, y2, 1, x2 * y2 % PP)).2.2.1 % PP = (adN (x1, y1, 1, x1 * y1 % PP) (x2, y2, 1, x2 * y2 % PP)).2.1) : u5 a b = (fp x, fp y) := by
  subst ha hb
  exact j1q (j8e (s := (x1, y1, 1, x1 * y1 % PP)) (t := (x2, y2, 1, x2 * y2 % PP)) (q8w hx1 hy1 o1 rfl) (q8w hx2 hy2 o2 rfl)) h.1 h.2
theorem q6z {a : Pr} {x y : Nat} (ha : a = (fp x, fp y)) (h : (y % PP == 1) = false) : ¬ a = p0 := by
  intro e
  rw [ha] at e
  have e2 : fp y = (1 : Fp) := congrArg Prod.snd e
  have e3 := congrArg Fin.val e2
  rw [q7n] at e3
  have e4 : y % PP = 1 := e3
  rw [e4] at h; cases h
theorem y0d {V c h Vc xq yq : Nat} {L : List UInt8} {a : Pr} (eh : hs ([3, 1] ++ lb 32 V ++ L ++ [u8 c, 0]) = h) (ec : lo h = Vc) (hx : xq < PP) (hy : yq < PP) (he : yq + 2 ^ 255 * (xq % 2) = Vc) (hon : s8 (fp xq, fp yq)) (h8 : pm (fp xq, fp yq) 8 = a) (hne : ¬ a = p0) :
    r9 V L c = true ∧ a6 V L c = a := by
  have e : A9 V L c = t6 (fp xq, fp yq) := by unfold A9; rw [eh, ec, y4d hx hy, he]
  obtain ⟨d1, d2⟩ := Z8 hon
  have e8 : a6 V L c = a := by unfold a6; rw [e, d2, h8]
  exact ⟨candOk_iff.2 ⟨by rw [e]; exact d1, by rw [e8]; exact hne⟩, e8⟩
theorem y4q {V : Nat} {L : List UInt8} (h : r9 V L 0 = true) : vpt V L = some 0 := by
  unfold vpt
  show q9y V L (255 + 1) 0 = some 0
  unfold q9y
  rw [if_pos h]
theorem y2i {S h1 N D P : Nat} (e : hs (lb 32 S) = h1) (eN : clN (lo h1) = N) (eD : hi h1 = D) (eP : t6 (pm BP N) = P) : kN S = N ∧ kD S = D ∧ kP S = P := by
  subst e eN eD eP; exact ⟨rfl, rfl, rfl⟩
theorem y7g {S N D P E G U W hk K hc C n : Nat} {h : Pr} (eN : kN S = N) (eD : kD S = D) (eP : kP S = P) (eE : t6 h = E) (ek : hs (lb 32 D ++ lb 32 E) = hk) (ek2 : hk % LL = K) (eG : t6 (pm h N) = G) (eU : t6 (pm BP K) = U) (eW : t6 (pm h K) = W)
    (ec : hs ([3, 2] ++ lb 32 P ++ lb 32 E ++ lb 32 G ++ lb 32 U ++ lb 32 W ++ [0]) = hc) (ec2 : hc % p7 = C) (en : (K + C % LL * (N % LL) % LL) % LL = n) : vK' S h = K ∧ vC S h = C ∧ vN S h = n := by
  have k1 : vK' S h = K := by unfold vK'; rw [eD, eE, ek, ek2]
  have k2 : vC S h = C := by unfold vC ch chH; rw [k1, eN, eP, eE, eG, eU, eW, ec, ec2]
  exact ⟨k1, k2, by unfold vN; rw [k1, k2, eN, en]⟩
theorem y7h {S N P E G U W hd C C2 n K : Nat} {h b : Pr} (hon : s8 h) (eN : kN S = N) (eP : kP S = P) (k1 : vK' S h = K) (k2 : vC S h = C) (k3 : vN S h = n) (eE : t6 b = E) (eG : t6 (pm h N) = G) (eU : t6 (pm BP K) = U) (eW : t6 (u5 (pm b n) (pm (G1 (pm h N)) C)) = W)
    (ec : hs ([3, 2] ++ lb 32 P ++ lb 32 E ++ lb 32 G ++ lb 32 U ++ lb 32 W ++ [0]) = hd) (ec2 : hd % p7 = C2) (hne : ¬ C2 = C) : ¬ q1z (kP S) (vPr S h) b := by
  obtain ⟨e1, e2, e3⟩ := I3 (S := S) hon
  have d1 : B1 (kP S) = pm BP (kN S) := (Z8 (J4 O5 _)).2
  have d2 : B1 (t6 (pm h (kN S))) = pm h (kN S) := (Z8 (J4 hon _)).2
  have g1 : u5 (pm BP (vN S h)) (pm (G1 (pm BP (kN S))) (vC S h)) = pm BP (vK' S h) := y4p O5 j0n _ _ _
  intro ht
  unfold q1z at ht
  rw [e1, e2, e3, d1, d2, g1] at ht
  unfold ch chH at ht
  rw [eP, k1, k2, k3, eN, eE, eG, eU, eW, ec, ec2] at ht
  exact hne ht
def qPx : Nat := 26822555233711949854380153315158647482531717314742952720223963642152101436051
def qPy : Nat := 56461774818723834839721450787889437474891852695816614318545467683432985644238
theorem g6z : qPx < PP := by decide
theorem g7a : qPy < PP := by decide
theorem g7b : s8 (fp qPx, fp qPy) := by unfold s8; decide +kernel
def qax : Nat := 47024039051628811779107516702321879712624584126105895814772064878575390995579
def qay : Nat := 36463181788650339775237385953296199005534778670103291544839962084555217917972
theorem g7c : qax < PP := by decide
theorem g7d : qay < PP := by decide
theorem j8s : s8 (fp qax, fp qay) := by unfold s8; decide +kernel
def qbx : Nat := 5347412701449414475638337812612804166351006483222583960086511109711120593916
def qby : Nat := 31454809416705925197151026446448411341732414034120726205309780028097122426136
theorem g7e : qbx < PP := by decide
theorem g7f : qby < PP := by decide
theorem j8t : s8 (fp qbx, fp qby) := by unfold s8; decide +kernel
def qAx : Nat := 4469178358068918509625982920184479197551857748499590235157424197441462617855
def qAy : Nat := 16503622182197511828209738090181657542955776088139777616436718276135933772672
theorem j6x : qAx < PP := by decide
theorem j6y : qAy < PP := by decide
theorem y0e : s8 (fp qAx, fp qAy) := by unfold s8; decide +kernel
def qBx : Nat := 5974376345347396749938987862407457246551996092567368546225745622563519485233
def qBy : Nat := 25507955390308686559427229708500431997880189612436112124872904814129796593346
theorem g7g : qBx < PP := by decide
theorem g7h : qBy < PP := by decide
theorem g7i : s8 (fp qBx, fp qBy) := by unfold s8; decide +kernel
def qGx : Nat := 52849512371216097416144070854348002339830276853655352174081457955876419264926
def qGy : Nat := 18696685970608254202361949891616185249678853724601089132532660764177179248217
theorem g7j : qGx < PP := by decide
theorem g7k : qGy < PP := by decide
def qHx : Nat := 5046532247442000295641421649995951586804715479164929845647334048080145555023
def qHy : Nat := 18696685970608254202361949891616185249678853724601089132532660764177179248217
theorem x0d : qHx < PP := by decide
theorem x0e : qHy < PP := by decide
theorem g7l : s8 (fp qHx, fp qHy) := by unfold s8; decide +kernel
def qUx : Nat := 34041848190338174590199495275267166861103803162117913164112832323681138233462
def qUy : Nat := 10698877992207514302921899927584436771403796231390052444100648854606243683879
theorem g7m : qUx < PP := by decide
theorem g7n : qUy < PP := by decide
def qWx : Nat := 54216188195815484947427281557918180183775820976694042062661435957267160522392
def qWy : Nat := 25127804734697795270971494780440874830326818899784732585710284858304774582977
theorem x0f : qWx < PP := by decide
theorem x0g : qWy < PP := by decide
def j6z : Nat := 15305460063662360849636066956607517872801195214844971600126247347963246928219
def j7a : Nat := 33063317137921983270192251169376104506385357643234122421449905331893286617428
theorem g7o : j6z < PP := by decide
theorem g7p : j7a < PP := by decide
theorem g3g : s8 (fp j6z, fp j7a) := by unfold s8; decide +kernel
def j7b : Nat := 9801310404785320244818855751587982283057879391861629553288258005068067321999
def j7c : Nat := 34371539319246345432998495076013424602850629991217940145977496407126046607418
theorem g7q : j7b < PP := by decide
theorem g7r : j7c < PP := by decide
theorem g3h : s8 (fp j7b, fp j7c) := by unfold s8; decide +kernel
def g7s : Nat := 22801831497374732990026139424660372227231082220795440041409309073464833047447
def g7t : Nat := 42087999013756145457267656185239980954730474700548294743534455844544161265793
theorem g7u : g7s < PP := by decide
theorem g7v : g7t < PP := by decide
def qEx : Nat := 15442730981594750838971302459575842918760929366015934280027366898552379046717
def qEy : Nat := 42218610869048474510830178928357113993860933435220319996272949481851902639999
def q0x : Nat := 0
def q0y : Nat := 1
theorem j8r : (fp q0x, fp q0y) = p0 := by decide +kernel
theorem tP : pm BP 41354757114163650016304086911142683682198188400503391378057401993857692208328 = (fp qPx, fp qPy) := V5 (xa := BX) (ya := BY) rfl (by decide) (by decide) O5 (by decide) (by decide +kernel)
theorem tU : pm BP 3161791165370906722381511076698169585287567781214044859123769755562896188151 = (fp qUx, fp qUy) := V5 (xa := BX) (ya := BY) rfl (by decide) (by decide) O5 (by decide) (by decide +kernel)
theorem tE {a : Pr} (ha : a = (fp qPx, fp qPy)) : pm a 8 = (fp qEx, fp qEy) := V5 ha g6z g7a g7b (by decide) (by decide +kernel)
theorem ta {a : Pr} (ha : a = (fp qax, fp qay)) : pm a 8 = (fp qAx, fp qAy) := V5 ha g7c g7d j8s (by decide) (by decide +kernel)
theorem tb {a : Pr} (ha : a = (fp qbx, fp qby)) : pm a 8 = (fp qBx, fp qBy) := V5 ha g7e g7f j8t (by decide) (by decide +kernel)
theorem tL {a : Pr} (ha : a = (fp qAx, fp qAy)) : pm a 7237005577332262213973186563042994240857116359379907606001950938285454250989 = (fp q0x, fp q0y) := V5 ha j6x j6y y0e (by decide) (by decide +kernel)
theorem tG {a : Pr} (ha : a = (fp qAx, fp qAy)) : pm a 41354757114163650016304086911142683682198188400503391378057401993857692208328 = (fp qGx, fp qGy) := V5 ha j6x j6y y0e (by decide) (by decide +kernel)
theorem tW {a : Pr} (ha : a = (fp qAx, fp qAy)) : pm a 3161791165370906722381511076698169585287567781214044859123769755562896188151 = (fp qWx, fp qWy) := V5 ha j6x j6y y0e (by decide) (by decide +kernel)
theorem tW1 {a : Pr} (ha : a = (fp qBx, fp qBy)) : pm a 4468977000769298177449662360017992953311027276441274504179330820775322765732 = (fp j6z, fp j7a) := V5 ha g7g g7h g7i (by decide) (by decide +kernel)
theorem tW2 {a : Pr} (ha : a = (fp qHx, fp qHy)) : pm a 189355229152301691842014874267105580829 = (fp j7b, fp j7c) := V5 ha x0d x0e g7l (by decide) (by decide +kernel)
theorem nG : G1 (fp qGx, fp qGy) = (fp qHx, fp qHy) := by decide +kernel
theorem aW : u5 (fp j6z, fp j7a) (fp j7b, fp j7c) = (fp g7s, fp g7t) := g3e rfl rfl g7o g7p g7q g7r g3g g3h (by decide +kernel)
theorem sp1 : kN 1 = 41354757114163650016304086911142683682198188400503391378057401993857692208328 ∧ kD 1 = 74947656346158344409503503793437276329892731540947283120607119044439939905177 ∧ kP 1 = 114357819437381932551506943292233391401526845028636896338274259687389550464206 := y2i (h1 := 8678345711762074483941435942459349315791744468269612026220829880717679751032992162212105630643471702240689105779349018571374047650718608606628566249376974) (q2n (by decide +kernel)) (by decide +kernel) (by decide +kernel) (O3 tP g6z g7a (by decide +kernel))
theorem ca : r9 114357819437381932551506943292233391401526845028636896338274259687389550464206 [97] 0 = true ∧ a6 114357819437381932551506943292233391401526845028636896338274259687389550464206 [97] 0 = (fp qAx, fp qAy) := y0d (h := 4217728401137996085136769034409487805852939532085486328493455349853149161186833495216620188908688633613128681065855967220427564136070603473464087361574932) (Vc := 94359226407308437487022878457640152932169771002923573564568754088511782737940) (q2n (by decide +kernel)) (by decide +kernel) g7c g7d (by decide +kernel) j8s (ta rfl) (q6z rfl (by decide +kernel))
theorem cb : r9 114357819437381932551506943292233391401526845028636896338274259687389550464206 [98] 0 = true ∧ a6 114357819437381932551506943292233391401526845028636896338274259687389550464206 [98] 0 = (fp qBx, fp qBy) := y0d (h := 616082032838736440229054033691866983738947723987213580315641221012400015752405605581206817103919007263269839956216054564015079766058242509860130319916312) (Vc := 31454809416705925197151026446448411341732414034120726205309780028097122426136) (q2n (by decide +kernel)) (by decide +kernel) g7e g7f (by decide +kernel) j8t (tb rfl) (q6z rfl (by decide +kernel))
theorem prf {h : Pr} (hh : h = (fp qAx, fp qAy)) : vK' 1 h = 3161791165370906722381511076698169585287567781214044859123769755562896188151 ∧ vC 1 h = 189355229152301691842014874267105580829 ∧ vN 1 h = 4468977000769298177449662360017992953311027276441274504179330820775322765732 :=
  y7g (E := 74399666800855609539995230594525611469590768420960059636165510280092498592640) (G := 18696685970608254202361949891616185249678853724601089132532660764177179248217) (U := 10698877992207514302921899927584436771403796231390052444100648854606243683879) (W := 25127804734697795270971494780440874830326818899784732585710284858304774582977) (hk := 7933415268325076307271346314144494355142637304550576680828700674770017726477853738904922442346056435285655651424819270612212731135168475110439682221851997) (hc := 13063749317693618417669880169613355355953181294424221209471115007105793069900072920294027680970886204668055256065792387961984747987670934027457557955041053) sp1.1 sp1.2.1 sp1.2.2 (O3 hh j6x j6y (by decide +kernel)) (q2n (by decide +kernel)) (by decide +kernel) (O3 (tG hh) g7j g7k (by decide +kernel)) (O3 tU g7m g7n (by decide +kernel)) (O3 (tW hh) x0f x0g (by decide +kernel))
    (q2n (by decide +kernel)) (by decide +kernel) (by decide +kernel)
theorem wrg {h b : Pr} (hh : h = (fp qAx, fp qAy)) (hb : b = (fp qBx, fp qBy)) : ¬ q1z (kP 1) (vPr 1 h) b :=
  y7h (E := 83404000008966784271212722212844385924515181945256394144601696818086361413314) (G := 18696685970608254202361949891616185249678853724601089132532660764177179248217) (U := 10698877992207514302921899927584436771403796231390052444100648854606243683879) (W := 99984043632414243169053148689583934881365467033368576763263247848500726085761) (hd := 6281280134693562258463763669867447912133814464242399964677319322490654154923754615745931622186191480769860810395302255569196722421205755927676107013356286) (C2 := 270988073588811713367589928953451772670) (hh ▸ y0e) sp1.1 sp1.2.2 (prf hh).1 (prf hh).2.1 (prf hh).2.2 (O3 hb g7g g7h (by decide +kernel)) (O3 (tG hh) g7j g7k (by decide +kernel)) (O3 tU g7m g7n (by decide +kernel)) (O3 (by rw [tW1 hb, tG hh, nG, tW2 rfl, aW]) g7u g7v (by decide +kernel))
    (q2n (by decide +kernel)) (by decide +kernel) (by decide +kernel)
theorem key1 : G9 (kP 1) = true ∧ ¬ pm (B1 (kP 1)) 8 = p0 := by
  have d := Z8 (J4 O5 (kN 1))
  refine ⟨d.1, ?_⟩
  rw [show B1 (kP 1) = pm BP (kN 1) from d.2, sp1.1]
  exact q6z (tE tP) (by decide +kernel)
theorem vpa : vpt (kP 1) [97] = some 0 := by rw [sp1.2.2]; exact y4q ca.1
theorem vpb : vpt (kP 1) [98] = some 0 := by rw [sp1.2.2]; exact y4q cb.1
theorem ha_ : a6 (kP 1) [97] 0 = (fp qAx, fp qAy) := by rw [sp1.2.2]; exact ca.2
theorem hb_ : a6 (kP 1) [98] 0 = (fp qBx, fp qBy) := by rw [sp1.2.2]; exact cb.2
theorem g2v : q1z (kP 1) (vPr 1 (a6 (kP 1) [97] 0)) (a6 (kP 1) [97] 0) := by rw [ha_]; exact q5j y0e ((tL rfl).trans j8r)
theorem g2w : ¬ q1z (kP 1) (vPr 1 (a6 (kP 1) [97] 0)) (a6 (kP 1) [98] 0) := wrg ha_ hb_
end Go.Proofs.YtefpoollmbmkfaaDoor
