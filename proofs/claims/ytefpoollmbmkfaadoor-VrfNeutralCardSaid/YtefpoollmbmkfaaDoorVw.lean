/- The facts of custumallaw09.proofs: a proof by the seed 1, and two texts. No conditions. -/
import Derived.Test.YtefpoollmbmkfaaDoorVf
import Derived.Test.YtefpoollmbmkfaaDoorSw
set_option linter.unusedSimpArgs false
set_option linter.unusedVariables false
namespace Go.Proofs.YtefpoollmbmkfaaDoor
open Sc (LL i6)
set_option maxRecDepth 100000
attribute [local irreducible] hs
theorem q7f {b : Pr} (hb : p5 b) (h : pm b LL = p0) (n : Nat) : pm b (n % LL) = pm b n := by
  have h1 := Nat.div_add_mod n LL
  have e : pm b n = d5 (pm b (LL * (n / LL))) (pm b (n % LL)) := by rw [← q3h hb, h1]
  rw [e, q9g hb, h, y7e, q2g]
theorem y2z {b : Pr} (hb : p5 b) (h : pm b LL = p0) (K C N : Nat) : d5 (pm b ((K % LL + C % LL * (N % LL) % LL) % LL)) (pm (G4 (pm b N)) C) = pm b (K % LL) := by
  have e1 : pm b ((K % LL + C % LL * (N % LL) % LL) % LL) = d5 (pm b (K % LL)) (pm (pm b N) C) := by
    rw [q7f hb h, q3h hb, q7f hb h, ← Nat.mul_mod, q7f hb h, Nat.mul_comm C N, q9g hb]
  rw [e1, y1r, q3g (K8 hb _) (K8 (K8 hb _) _) (q6l (K8 (K8 hb _) _)), y7d (K8 (K8 hb _) _), y1q]
theorem g4v (S : Nat) (h : Pr) : vC S h < r6 := Nat.mod_lt _ (by decide)
theorem j6t (S : Nat) (h : Pr) : vN S h < LL := Nat.mod_lt _ (by decide)
theorem j1f {E C n : Nat} (hE : E < 2 ^ 256) (hC : C < r6) : pG (E + 2 ^ 256 * (C + r6 * n)) = E ∧ pC (E + 2 ^ 256 * (C + r6 * n)) = C ∧ pN (E + 2 ^ 256 * (C + r6 * n)) = n := by
  refine ⟨?_, ?_, ?_⟩
  · unfold pG; rw [Nat.add_mul_mod_self_left, Nat.mod_eq_of_lt hE]
  · unfold pC; rw [Nat.add_mul_div_left _ _ (Nat.two_pow_pos 256), Nat.div_eq_of_lt hE, Nat.zero_add, Nat.add_mul_mod_self_left, Nat.mod_eq_of_lt hC]
  · unfold pN; rw [Nat.add_mul_div_left _ _ (Nat.two_pow_pos 256), Nat.div_eq_of_lt hE, Nat.zero_add, Nat.add_mul_div_left _ _ (by decide), Nat.div_eq_of_lt hC, Nat.zero_add]
theorem R9 {S : Nat} {h : Pr} (hon : p5 h) : pG (vPr S h) = r4 (pm h (kN S)) ∧ pC (vPr S h) = vC S h ∧ pN (vPr S h) = vN S h := j1f (B9 _) (g4v S h)
theorem y0y {S : Nat} {h : Pr} (hon : p5 h) (hLL : pm h LL = p0) : q0m (kP S) (vPr S h) h := by
  obtain ⟨e1, e2, e3⟩ := R9 (S := S) hon
  have d1 : M6 (kP S) = pm BP (kN S) := (N0 (K8 P6 _)).2
  have d2 : M6 (r4 (pm h (kN S))) = pm h (kN S) := (N0 (K8 hon _)).2
  unfold q0m
  rw [e1, e2, e3, d1, d2]
  unfold vN
  have g1 : ∀ b : Pr, p5 b → pm b LL = p0 → d5 (pm b ((vK' S h + vC S h % LL * (kN S % LL) % LL) % LL)) (pm (G4 (pm b (kN S))) (vC S h)) = pm b (vK' S h) := fun b hb hl => y2z hb hl _ _ _
  rw [g1 BP P6 j6h, g1 h hon hLL]
  rfl
theorem H8 {a : Pr} {xa ya n x y : Nat} (ha : a = (fp xa, fp ya)) (hx : xa < PP) (hy : ya < PP) (hon : p5 (fp xa, fp ya)) (hn : n < 2 ^ 256)
    (h : x * (tmN (xa, ya, 1, xa * ya % PP) n 256).2.2.1 % PP = (tmN (xa, ya, 1, xa * ya % PP) n 256).1 ∧ y * (tmN (xa, ya, 1, xa * ya % PP) n 256).2.2.1 % PP = (tmN (xa, ya, 1, xa * ya % PP) n 256).2.1) : pm a n = (fp x, fp y) := by
  subst ha
  exact j0b (y8y (P := (xa, ya, 1, xa * ya % PP)) (q7n hx hy hon rfl) hn) h.1 h.2
theorem F5 {a : Pr} {x y e : Nat} (ha : a = (fp x, fp y)) (hx : x < PP) (hy : y < PP) (he : y + 2 ^ 255 * (x % 2) = e) : r4 a = e := by rw [ha, y2o hx hy, he]
theorem g1h {a b : Pr} {x1 y1 x2 y2 x y : Nat} (ha : a = (fp x1, fp y1)) (hb : b = (fp x2, fp y2)) (hx1 : x1 < PP) (hy1 : y1 < PP) (hx2 : x2 < PP) (hy2 : y2 < PP) (o1 : p5 (fp x1, fp y1)) (o2 : p5 (fp x2, fp y2))
    (h : x * (adN (x1, y1, 1, x1 * y1 % PP) (x2, y2, 1, x2 * y2 % PP)).2.2.1 % PP = (adN (x1, y1, 1, x1 * y1 % PP) (x2, y2, 1, x2 * y2 % PP)).1 ∧ y * (adN (x1, y1, 1, x1 * y1 % PP) (x2, y2, 1, x2 * y2 % PP)).2.2.1 % PP = (adN (x1, y1, 1, x1 * y1 % PP) (x2, y2, 1, x2 * y2 % PP)).2.1) : d5 a b = (fp x, fp y) := by
  subst ha hb
  exact j0b (j6f (s := (x1, y1, 1, x1 * y1 % PP)) (t := (x2, y2, 1, x2 * y2 % PP)) (q7n hx1 hy1 o1 rfl) (q7n hx2 hy2 o2 rfl)) h.1 h.2
theorem j1g {a : Pr} {x y : Nat} (ha : a = (fp x, fp y)) (h : (y % PP == 1) = false) : ¬ a = p0 := by
  intro e
  rw [ha] at e
  have e2 : fp y = (1 : Fp) := congrArg Prod.snd e
  have e3 := congrArg Fin.val e2
  rw [q6h] at e3
  have e4 : y % PP = 1 := e3
  rw [e4] at h; cases h
theorem q8t {V c h Vc xq yq : Nat} {L : List UInt8} {a : Pr} (eh : hs ([3, 1] ++ lb 32 V ++ L ++ [u8 c, 0]) = h) (ec : lo h = Vc) (hx : xq < PP) (hy : yq < PP) (he : yq + 2 ^ 255 * (xq % 2) = Vc) (hon : p5 (fp xq, fp yq)) (h8 : pm (fp xq, fp yq) 8 = a) (hne : ¬ a = p0) :
    r3 V L c = true ∧ o6 V L c = a := by
  have e : C0 V L c = r4 (fp xq, fp yq) := by unfold C0; rw [eh, ec, y2o hx hy, he]
  obtain ⟨d1, d2⟩ := N0 hon
  have e8 : o6 V L c = a := by unfold o6; rw [e, d2, h8]
  exact ⟨candOk_iff.2 ⟨by rw [e]; exact d1, by rw [e8]; exact hne⟩, e8⟩
theorem y3a {V : Nat} {L : List UInt8} (h : r3 V L 0 = true) : vpt V L = some 0 := by
  unfold vpt
  show q8q V L (255 + 1) 0 = some 0
  unfold q8q
  rw [if_pos h]
theorem y0z {S h1 N D P : Nat} (e : hs (lb 32 S) = h1) (eN : clN (lo h1) = N) (eD : hi h1 = D) (eP : r4 (pm BP N) = P) : kN S = N ∧ kD S = D ∧ kP S = P := by
  subst e eN eD eP; exact ⟨rfl, rfl, rfl⟩
theorem y5r {S N D P E G U W hk K hc C n : Nat} {h : Pr} (eN : kN S = N) (eD : kD S = D) (eP : kP S = P) (eE : r4 h = E) (ek : hs (lb 32 D ++ lb 32 E) = hk) (ek2 : hk % LL = K) (eG : r4 (pm h N) = G) (eU : r4 (pm BP K) = U) (eW : r4 (pm h K) = W)
    (ec : hs ([3, 2] ++ lb 32 P ++ lb 32 E ++ lb 32 G ++ lb 32 U ++ lb 32 W ++ [0]) = hc) (ec2 : hc % r6 = C) (en : (K + C % LL * (N % LL) % LL) % LL = n) : vK' S h = K ∧ vC S h = C ∧ vN S h = n := by
  have k1 : vK' S h = K := by unfold vK'; rw [eD, eE, ek, ek2]
  have k2 : vC S h = C := by unfold vC ch chH; rw [k1, eN, eP, eE, eG, eU, eW, ec, ec2]
  exact ⟨k1, k2, by unfold vN; rw [k1, k2, eN, en]⟩
theorem y5s {S N P E G U W hd C C2 n K : Nat} {h b : Pr} (hon : p5 h) (eN : kN S = N) (eP : kP S = P) (k1 : vK' S h = K) (k2 : vC S h = C) (k3 : vN S h = n) (eE : r4 b = E) (eG : r4 (pm h N) = G) (eU : r4 (pm BP K) = U) (eW : r4 (d5 (pm b n) (pm (G4 (pm h N)) C)) = W)
    (ec : hs ([3, 2] ++ lb 32 P ++ lb 32 E ++ lb 32 G ++ lb 32 U ++ lb 32 W ++ [0]) = hd) (ec2 : hd % r6 = C2) (hne : ¬ C2 = C) : ¬ q0m (kP S) (vPr S h) b := by
  obtain ⟨e1, e2, e3⟩ := R9 (S := S) hon
  have d1 : M6 (kP S) = pm BP (kN S) := (N0 (K8 P6 _)).2
  have d2 : M6 (r4 (pm h (kN S))) = pm h (kN S) := (N0 (K8 hon _)).2
  have g1 : d5 (pm BP (vN S h)) (pm (G4 (pm BP (kN S))) (vC S h)) = pm BP (vK' S h) := y2z P6 j6h _ _ _
  intro ht
  unfold q0m at ht
  rw [e1, e2, e3, d1, d2, g1] at ht
  unfold ch chH at ht
  rw [eP, k1, k2, k3, eN, eE, eG, eU, eW, ec, ec2] at ht
  exact hne ht
def qPx : Nat := 26822555233711949854380153315158647482531717314742952720223963642152101436051
def qPy : Nat := 56461774818723834839721450787889437474891852695816614318545467683432985644238
theorem g4w : qPx < PP := by decide
theorem g4x : qPy < PP := by decide
theorem g4y : p5 (fp qPx, fp qPy) := by unfold p5; decide +kernel
def qax : Nat := 47024039051628811779107516702321879712624584126105895814772064878575390995579
def qay : Nat := 36463181788650339775237385953296199005534778670103291544839962084555217917972
theorem g4z : qax < PP := by decide
theorem g5a : qay < PP := by decide
theorem j6w : p5 (fp qax, fp qay) := by unfold p5; decide +kernel
def qbx : Nat := 5347412701449414475638337812612804166351006483222583960086511109711120593916
def qby : Nat := 31454809416705925197151026446448411341732414034120726205309780028097122426136
theorem g5b : qbx < PP := by decide
theorem g5c : qby < PP := by decide
theorem j6x : p5 (fp qbx, fp qby) := by unfold p5; decide +kernel
def qAx : Nat := 4469178358068918509625982920184479197551857748499590235157424197441462617855
def qAy : Nat := 16503622182197511828209738090181657542955776088139777616436718276135933772672
theorem j4y : qAx < PP := by decide
theorem j4z : qAy < PP := by decide
theorem q8u : p5 (fp qAx, fp qAy) := by unfold p5; decide +kernel
def qBx : Nat := 5974376345347396749938987862407457246551996092567368546225745622563519485233
def qBy : Nat := 25507955390308686559427229708500431997880189612436112124872904814129796593346
theorem g5d : qBx < PP := by decide
theorem g5e : qBy < PP := by decide
theorem g5f : p5 (fp qBx, fp qBy) := by unfold p5; decide +kernel
def qGx : Nat := 52849512371216097416144070854348002339830276853655352174081457955876419264926
def qGy : Nat := 18696685970608254202361949891616185249678853724601089132532660764177179248217
theorem g5g : qGx < PP := by decide
theorem g5h : qGy < PP := by decide
def qHx : Nat := 5046532247442000295641421649995951586804715479164929845647334048080145555023
def qHy : Nat := 18696685970608254202361949891616185249678853724601089132532660764177179248217
theorem g8i : qHx < PP := by decide
theorem g8j : qHy < PP := by decide
theorem g5i : p5 (fp qHx, fp qHy) := by unfold p5; decide +kernel
def qUx : Nat := 34041848190338174590199495275267166861103803162117913164112832323681138233462
def qUy : Nat := 10698877992207514302921899927584436771403796231390052444100648854606243683879
theorem g5j : qUx < PP := by decide
theorem g5k : qUy < PP := by decide
def qWx : Nat := 54216188195815484947427281557918180183775820976694042062661435957267160522392
def qWy : Nat := 25127804734697795270971494780440874830326818899784732585710284858304774582977
theorem g8k : qWx < PP := by decide
theorem g8l : qWy < PP := by decide
def j5a : Nat := 15305460063662360849636066956607517872801195214844971600126247347963246928219
def j5b : Nat := 33063317137921983270192251169376104506385357643234122421449905331893286617428
theorem g5l : j5a < PP := by decide
theorem g5m : j5b < PP := by decide
theorem g1j : p5 (fp j5a, fp j5b) := by unfold p5; decide +kernel
def j5c : Nat := 9801310404785320244818855751587982283057879391861629553288258005068067321999
def j5d : Nat := 34371539319246345432998495076013424602850629991217940145977496407126046607418
theorem g5n : j5c < PP := by decide
theorem g5o : j5d < PP := by decide
theorem g1k : p5 (fp j5c, fp j5d) := by unfold p5; decide +kernel
def g5p : Nat := 22801831497374732990026139424660372227231082220795440041409309073464833047447
def g5q : Nat := 42087999013756145457267656185239980954730474700548294743534455844544161265793
theorem g5r : g5p < PP := by decide
theorem g5s : g5q < PP := by decide
def qEx : Nat := 15442730981594750838971302459575842918760929366015934280027366898552379046717
def qEy : Nat := 42218610869048474510830178928357113993860933435220319996272949481851902639999
def q0x : Nat := 0
def q0y : Nat := 1
theorem j6v : (fp q0x, fp q0y) = p0 := by decide +kernel
theorem tP : pm BP 41354757114163650016304086911142683682198188400503391378057401993857692208328 = (fp qPx, fp qPy) := H8 (xa := BX) (ya := BY) rfl (by decide) (by decide) P6 (by decide) (by decide +kernel)
theorem tU : pm BP 3161791165370906722381511076698169585287567781214044859123769755562896188151 = (fp qUx, fp qUy) := H8 (xa := BX) (ya := BY) rfl (by decide) (by decide) P6 (by decide) (by decide +kernel)
theorem tE {a : Pr} (ha : a = (fp qPx, fp qPy)) : pm a 8 = (fp qEx, fp qEy) := H8 ha g4w g4x g4y (by decide) (by decide +kernel)
theorem ta {a : Pr} (ha : a = (fp qax, fp qay)) : pm a 8 = (fp qAx, fp qAy) := H8 ha g4z g5a j6w (by decide) (by decide +kernel)
theorem tb {a : Pr} (ha : a = (fp qbx, fp qby)) : pm a 8 = (fp qBx, fp qBy) := H8 ha g5b g5c j6x (by decide) (by decide +kernel)
theorem tL {a : Pr} (ha : a = (fp qAx, fp qAy)) : pm a 7237005577332262213973186563042994240857116359379907606001950938285454250989 = (fp q0x, fp q0y) := H8 ha j4y j4z q8u (by decide) (by decide +kernel)
theorem tG {a : Pr} (ha : a = (fp qAx, fp qAy)) : pm a 41354757114163650016304086911142683682198188400503391378057401993857692208328 = (fp qGx, fp qGy) := H8 ha j4y j4z q8u (by decide) (by decide +kernel)
theorem tW {a : Pr} (ha : a = (fp qAx, fp qAy)) : pm a 3161791165370906722381511076698169585287567781214044859123769755562896188151 = (fp qWx, fp qWy) := H8 ha j4y j4z q8u (by decide) (by decide +kernel)
theorem tW1 {a : Pr} (ha : a = (fp qBx, fp qBy)) : pm a 4468977000769298177449662360017992953311027276441274504179330820775322765732 = (fp j5a, fp j5b) := H8 ha g5d g5e g5f (by decide) (by decide +kernel)
theorem tW2 {a : Pr} (ha : a = (fp qHx, fp qHy)) : pm a 189355229152301691842014874267105580829 = (fp j5c, fp j5d) := H8 ha g8i g8j g5i (by decide) (by decide +kernel)
theorem nG : G4 (fp qGx, fp qGy) = (fp qHx, fp qHy) := by decide +kernel
theorem aW : d5 (fp j5a, fp j5b) (fp j5c, fp j5d) = (fp g5p, fp g5q) := g1h rfl rfl g5l g5m g5n g5o g1j g1k (by decide +kernel)
theorem sp1 : kN 1 = 41354757114163650016304086911142683682198188400503391378057401993857692208328 ∧ kD 1 = 74947656346158344409503503793437276329892731540947283120607119044439939905177 ∧ kP 1 = 114357819437381932551506943292233391401526845028636896338274259687389550464206 := y0z (h1 := 8678345711762074483941435942459349315791744468269612026220829880717679751032992162212105630643471702240689105779349018571374047650718608606628566249376974) (q1f (by decide +kernel)) (by decide +kernel) (by decide +kernel) (F5 tP g4w g4x (by decide +kernel))
theorem ca : r3 114357819437381932551506943292233391401526845028636896338274259687389550464206 [97] 0 = true ∧ o6 114357819437381932551506943292233391401526845028636896338274259687389550464206 [97] 0 = (fp qAx, fp qAy) := q8t (h := 4217728401137996085136769034409487805852939532085486328493455349853149161186833495216620188908688633613128681065855967220427564136070603473464087361574932) (Vc := 94359226407308437487022878457640152932169771002923573564568754088511782737940) (q1f (by decide +kernel)) (by decide +kernel) g4z g5a (by decide +kernel) j6w (ta rfl) (j1g rfl (by decide +kernel))
theorem cb : r3 114357819437381932551506943292233391401526845028636896338274259687389550464206 [98] 0 = true ∧ o6 114357819437381932551506943292233391401526845028636896338274259687389550464206 [98] 0 = (fp qBx, fp qBy) := q8t (h := 616082032838736440229054033691866983738947723987213580315641221012400015752405605581206817103919007263269839956216054564015079766058242509860130319916312) (Vc := 31454809416705925197151026446448411341732414034120726205309780028097122426136) (q1f (by decide +kernel)) (by decide +kernel) g5b g5c (by decide +kernel) j6x (tb rfl) (j1g rfl (by decide +kernel))
theorem prf {h : Pr} (hh : h = (fp qAx, fp qAy)) : vK' 1 h = 3161791165370906722381511076698169585287567781214044859123769755562896188151 ∧ vC 1 h = 189355229152301691842014874267105580829 ∧ vN 1 h = 4468977000769298177449662360017992953311027276441274504179330820775322765732 :=
  y5r (E := 74399666800855609539995230594525611469590768420960059636165510280092498592640) (G := 18696685970608254202361949891616185249678853724601089132532660764177179248217) (U := 10698877992207514302921899927584436771403796231390052444100648854606243683879) (W := 25127804734697795270971494780440874830326818899784732585710284858304774582977) (hk := 7933415268325076307271346314144494355142637304550576680828700674770017726477853738904922442346056435285655651424819270612212731135168475110439682221851997) (hc := 13063749317693618417669880169613355355953181294424221209471115007105793069900072920294027680970886204668055256065792387961984747987670934027457557955041053) sp1.1 sp1.2.1 sp1.2.2 (F5 hh j4y j4z (by decide +kernel)) (q1f (by decide +kernel)) (by decide +kernel) (F5 (tG hh) g5g g5h (by decide +kernel)) (F5 tU g5j g5k (by decide +kernel)) (F5 (tW hh) g8k g8l (by decide +kernel))
    (q1f (by decide +kernel)) (by decide +kernel) (by decide +kernel)
theorem wrg {h b : Pr} (hh : h = (fp qAx, fp qAy)) (hb : b = (fp qBx, fp qBy)) : ¬ q0m (kP 1) (vPr 1 h) b :=
  y5s (E := 83404000008966784271212722212844385924515181945256394144601696818086361413314) (G := 18696685970608254202361949891616185249678853724601089132532660764177179248217) (U := 10698877992207514302921899927584436771403796231390052444100648854606243683879) (W := 99984043632414243169053148689583934881365467033368576763263247848500726085761) (hd := 6281280134693562258463763669867447912133814464242399964677319322490654154923754615745931622186191480769860810395302255569196722421205755927676107013356286) (C2 := 270988073588811713367589928953451772670) (hh ▸ q8u) sp1.1 sp1.2.2 (prf hh).1 (prf hh).2.1 (prf hh).2.2 (F5 hb g5d g5e (by decide +kernel)) (F5 (tG hh) g5g g5h (by decide +kernel)) (F5 tU g5j g5k (by decide +kernel)) (F5 (by rw [tW1 hb, tG hh, nG, tW2 rfl, aW]) g5r g5s (by decide +kernel))
    (q1f (by decide +kernel)) (by decide +kernel) (by decide +kernel)
theorem key1 : K0 (kP 1) = true ∧ ¬ pm (M6 (kP 1)) 8 = p0 := by
  have d := N0 (K8 P6 (kN 1))
  refine ⟨d.1, ?_⟩
  rw [show M6 (kP 1) = pm BP (kN 1) from d.2, sp1.1]
  exact j1g (tE tP) (by decide +kernel)
theorem vpa : vpt (kP 1) [97] = some 0 := by rw [sp1.2.2]; exact y3a ca.1
theorem vpb : vpt (kP 1) [98] = some 0 := by rw [sp1.2.2]; exact y3a cb.1
theorem ha_ : o6 (kP 1) [97] 0 = (fp qAx, fp qAy) := by rw [sp1.2.2]; exact ca.2
theorem hb_ : o6 (kP 1) [98] 0 = (fp qBx, fp qBy) := by rw [sp1.2.2]; exact cb.2
theorem g0z : q0m (kP 1) (vPr 1 (o6 (kP 1) [97] 0)) (o6 (kP 1) [97] 0) := by rw [ha_]; exact y0y q8u ((tL rfl).trans j6v)
theorem g1a : ¬ q0m (kP 1) (vPr 1 (o6 (kP 1) [97] 0)) (o6 (kP 1) [98] 0) := wrg ha_ hb_
end Go.Proofs.YtefpoollmbmkfaaDoor
