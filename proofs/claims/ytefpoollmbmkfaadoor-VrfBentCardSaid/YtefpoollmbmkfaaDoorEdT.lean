/- The document's Times: of a text of any length. No conditions. -/
import Derived.Test.YtefpoollmbmkfaaDoorGc
import Derived.Test.YtefpoollmbmkfaaDoorEdR
import Derived.Test.YtefpoollmbmkfaaDoorEdF
import Derived.Test.YtefpoollmbmkfaaDoorEi
set_option linter.unusedSimpArgs false
set_option linter.unusedVariables false
namespace Go.Proofs.YtefpoollmbmkfaaDoor
set_option maxHeartbeats 1500000
set_option maxRecDepth 100000
open Go.RowKit
attribute [local irreducible] wpList
abbrev T3 := Nat × Nat × Nat
def qc (s : T3) : Array Value := p3 s.1 s.2.1 s.2.2
def RQ (s : T3) (a : Pr) : Prop := RD s.1 s.2.1 s.2.2 a
theorem J2y {s : T3} : (qc s).size = 48 := J3
theorem Z1k {s : T3} : (qc s).all (·.oneCell') = true := J0h
structure DStep (P : T3) (n j : Nat) (s g s' : T3) : Prop where
  tw : ∀ w, Calls Tryd.prog 58 #[.agg (qc s), .agg (qc s)] w fun e w' => Ret (.agg (qc g)) w w' e
  ad : n / 2 ^ j % 2 = 1 → ∀ w, Calls Tryd.prog 58 #[.agg (qc g), .agg (qc P)] w fun e w' => Ret (.agg (qc s')) w w' e
  no : ¬ n / 2 ^ j % 2 = 1 → s' = g
theorem V1x {P s : T3} {a : Pr} {n j : Nat} (hP : RQ P a) (hs : RQ s (pm a (n / 2 ^ (j + 1)))) : ∃ g s', DStep P n j s g s' ∧ RQ s' (pm a (n / 2 ^ j)) := by
  obtain ⟨x, y, z, r, c⟩ := J8q hs hs
  by_cases h : n / 2 ^ j % 2 = 1
  · obtain ⟨x', y', z', r', c'⟩ := J8q r hP
    exact ⟨(x, y, z), (x', y', z'), ⟨c, fun _ => c', fun h0 => absurd h h0⟩, by rw [Q9s hP.on h]; exact r'⟩
  · exact ⟨(x, y, z), (x, y, z), ⟨c, fun h0 => absurd h0 h, fun _ => rfl⟩, by rw [Z3m hP.on (by omega)]; exact r⟩
theorem V1y {P s0 : T3} {a : Pr} {n J : Nat} (hP : RQ P a) (h0 : RQ s0 (pm a (n / 2 ^ J))) : ∀ m, m ≤ J → ∃ f g : Nat → T3, f J = s0 ∧ (∀ j, J - m ≤ j → j ≤ J → RQ (f j) (pm a (n / 2 ^ j))) ∧ ∀ j, J - m ≤ j → j < J → DStep P n j (f (j + 1)) (g j) (f j)
  | 0, _ => ⟨fun _ => s0, fun _ => s0, rfl, fun j h1 h2 => by rw [show j = J by omega]; exact h0, fun j h1 h2 => by omega⟩
  | m + 1, hm => by
    obtain ⟨f, g, e0, e1, e2⟩ := V1y hP h0 m (by omega)
    obtain ⟨k, hk⟩ : ∃ k, k = J - 1 - m := ⟨_, rfl⟩
    obtain ⟨x, s', st, hr⟩ := V1x (j := k) hP (e1 (k + 1) (by omega) (by omega))
    refine ⟨fun j => if j = k then s' else f j, fun j => if j = k then x else g j, ?_, fun j h1 h2 => ?_, fun j h1 h2 => ?_⟩
    · show (if J = k then s' else f J) = s0
      rw [if_neg (by omega)]; exact e0
    · show RQ (if j = k then s' else f j) _
      by_cases h : j = k
      · rw [if_pos h, h]; exact hr
      · rw [if_neg h]; exact e1 j (by omega) h2
    · show DStep P n j (if j + 1 = k then s' else f (j + 1)) (if j = k then x else g j) (if j = k then s' else f j)
      rw [if_neg (by omega)]
      by_cases h : j = k
      · rw [if_pos h, if_pos h, h]; exact st
      · rw [if_neg h, if_neg h]; exact e2 j (by omega) h2

theorem Q9w {w : World} {o : Oper} {a : Act} {x y : Operand} {t t' : TypeId} {p r : Nat} (h : p % 2 = r) (hp : p < 256) (ho : o.op = .binOp .rem t x y t') (hx : a.eval x = .int .u8 (p : Int)) (hy : a.eval y = .int .u8 2) : (execOp a.eval o).run Tryd.prog w = .ok (.value (.int .u8 (r : Int))) w := by
  rw [← h]; exact Z8t (P := Tryd.prog) (q := 2) (by decide) hp ho hx hy
theorem Q1w {X1 Y1 Z1 : Nat} {p1 : Pr} (h1 : RD X1 Y1 Z1 p1) (l : List UInt8) (hl : l.length < 1099511627776) :
  ∃ X Y Z, RD X Y Z (pm p1 (le l)) ∧ ∀ w, Calls Tryd.prog 46 #[.agg (p3 X1 Y1 Z1), str l] w fun e w' => Ret (.agg (p3 X Y Z)) w w' e := by
 obtain ⟨f, gg, hf0, hfr, hfs⟩ := V1y (P := (X1, Y1, Z1)) (s0 := (0, 1, 1)) (n := le l) (J := 8 * l.length) h1 (by rw [Nat.div_eq_of_lt (Z3q l)]; exact J6q) (8 * l.length) (Nat.le_refl _)
 have Hf0 := Lib.hid hf0
 clear hf0
 refine ⟨(f 0).1, (f 0).2.1, (f 0).2.2, (by have := hfr 0 (by omega) (Nat.zero_le _); rw [Nat.pow_zero, Nat.div_one] at this; exact this), fun w => ?_⟩
 have off0 : Off [] w w := Off.refl _ _
 go_enter Tryd.func46, Tryd.ntmps46
 go_upto_region 0 with fail
 refine wp_region_lit ?_
 refine Ln ?_ (z := p3 X1 Y1 Z1) (t := 78)
 intro J0c W1 U0 hO h_
 replace off0 := off0.o hO
 have k_t2 := h_
 clear hO h_ U0
 refine Ln ?_ (z := p3 0 0 0) (t := 78)
 intro J6r W2 J10 hO h_
 have nq_t2_t4 := bn k_t2 J10
 have J2d := fbn off0 J10
 replace k_t2 := k_t2.o hO
 replace off0 := off0.o hO
 have k_t4 := h_
 clear hO h_ J10
 refine J0 ?_
 go_upto_region 1 with fail
 refine wp_region_lit ?_
 refine Lr ?_ (J6p W2)
 intro W3 hO
 replace k_t2 := k_t2.o hO
 replace k_t4 := k_t4.o hO
 replace off0 := off0.o hO
 clear hO
 refine LnP ?_ (z := p3 0 0 0) (t := 78) (cells := p3 0 1 1) (hi := by rw [J3]; kernel_rfl) (hs := by first | rw [J3, J3] | rw [J3] | kernel_rfl) (h1 := by exact J0h)
 intro Q3y W5 J0p hO h_
 have nq_t2_t5 := bn k_t2 J0p
 have nq_t4_t5 := bn k_t4 J0p
 have J9n := fbn off0 J0p
 replace k_t2 := k_t2.o hO
 replace k_t4 := k_t4.o hO
 replace off0 := off0.o hO
 have k_t5 := h_
 clear hO h_ J0p
 refine J0 ?_
 go_upto_region 2 with fail
 refine wp_region_lit ?_
 refine Lv ?_
 refine Q9x (l := l) (by rfl) rfl rfl ?_
 (try simp only [Act.put, mA, mB, mC])
 refine Lw ?_ (v := .int .i64 ((l.length : Int) - 1)) (hv := by exact Z8u (by omega) rfl rfl rfl)
 refine Lv ?_
 refine J0 ?_
 go_wp2_with fail
 go_loopw [6] (fun si wr => ∃ (m : Nat), (m ≤ l.length) ∧ (si = .int .i64 ((m : Int) - 1)) ∧ Off [] w wr ∧ Blk wr J0c (p3 X1 Y1 Z1) 78 ∧ Blk wr J6r (p3 0 0 0) 78 ∧ Blk wr Q3y (qc (f (8 * m))) 78)
  (fun si _ => (intOf si + 1).toNat)
 case atStart => exact ⟨l.length, Nat.le_refl _, rfl, off0, k_t2, k_t4, (by rw [Hf0.out]; exact k_t5)⟩
 case round =>
  obtain ⟨m, hm, rfl, off0, k_t2, k_t4, k_t5⟩ := hrel
  obtain ⟨W6, eW_⟩ := J3r off0
  subst eW_
  by_cases hz : m = 0
  ·
   have _f := hz
   subst hz
   go_upto_region 3 with fail
   refine wp_region_lit ?_
   refine Lv ?_
   refine Lw ?_ (v := .bool false)
   refine J0 ?_
   go_upto_region 11 with fail
   refine wp_region_lit ?_
   refine L0 ?_ k_t5 (hi := by rw [J2y]; kernel_rfl)
   refine Lp ?_ k_t4 (cells := qc (f (8 * 0))) (hi := by rw [J2y]; kernel_rfl) (hs := by first | rw [J3, J2y] | rw [J2y] | kernel_rfl) (h1 := by exact Z1k)
   intro W7 hO h_
   replace k_t4 : Blk W7 J6r (qc (f (8 * 0))) 78 := h_
   clear h_
   replace k_t2 := k_t2.p hO nq_t2_t4
   replace k_t5 := k_t5.p hO nq_t4_t5.symm
   replace off0 := off0.p hO J2d
   clear hO
   refine J0 ?_
   go_wp2
   exact bodyPost_ret (K6 rfl rfl k_t4 (by kernel_rfl) (by rw [J2y]; kernel_rfl)) rfl ⟨rfl, off0.ext⟩
  ·
   have _f := hz
   obtain ⟨i, rfl⟩ : ∃ i, m = i + 1 := ⟨m - 1, by omega⟩
   rw [show ((i + 1 : Nat) : Int) - 1 = (i : Int) by omega]
   go_upto_region 3 with fail
   refine wp_region_lit ?_
   refine Lv ?_
   refine Lw ?_ (v := .bool true)
   refine J0 ?_
   go_wp2_with fail
   go_loopw [7] (fun sk wr => ∃ (r : Nat), (r ≤ 8) ∧ (sk = .int .i64 ((r : Int) - 1)) ∧ Off [] w wr ∧ Blk wr J0c (p3 X1 Y1 Z1) 78 ∧ Blk wr J6r (p3 0 0 0) 78 ∧ Blk wr Q3y (qc (f (8 * i + r))) 78)
    (fun sk _ => (intOf sk + 1).toNat)
   case atStart => exact ⟨8, Nat.le_refl _, rfl, off0, k_t2, k_t4, (by rw [show 8 * i + 8 = 8 * (i + 1) by omega]; exact k_t5)⟩
   case round =>
    obtain ⟨r, hr, rfl, off0, k_t2, k_t4, k_t5⟩ := hrel
    obtain ⟨W7, eW_⟩ := J3r off0
    subst eW_
    by_cases hz2 : r = 0
    ·
     have _f := hz2
     subst hz2
     go_upto_region 6 with fail
     refine wp_region_lit ?_
     refine Lv ?_
     refine Lw ?_ (v := .bool false)
     refine J0 ?_
     go_wp2
     go_roundw
     case rel => exact ⟨i, by omega, by go_num, off0, k_t2, k_t4, k_t5⟩
     case measure => first | (simp [intOf]; done) | (simp [intOf]; omega)
    ·
     have _f := hz2
     obtain ⟨q, rfl⟩ : ∃ q, r = q + 1 := ⟨r - 1, by omega⟩
     have hst := hfs (8 * i + q) (by omega) (by omega)
     rw [show ((q + 1 : Nat) : Int) - 1 = (q : Int) by omega]
     go_upto_region 6 with fail
     refine wp_region_lit ?_
     refine Lv ?_
     refine Lw ?_ (v := .bool true)
     refine J0 ?_
     go_upto_region 8 with fail
     refine wp_region_lit ?_
     refine L0 ?_ k_t5 (hi := by rw [J2y]; kernel_rfl)
     refine L0 ?_ k_t5 (hi := by rw [J2y]; kernel_rfl)
     refine Lr ?_ (hst.tw W7)
     intro W8 hO
     replace k_t2 := k_t2.o hO
     replace k_t4 := k_t4.o hO
     replace k_t5 := k_t5.o hO
     replace off0 := off0.o hO
     clear hO
     refine Lp ?_ k_t5 (cells := qc (gg (8 * i + q))) (hi := by rw [J2y]; kernel_rfl) (hs := by first | rw [J2y, J2y] | rw [J2y] | kernel_rfl) (h1 := by exact Z1k)
     intro W9 hO h_
     replace k_t5 : Blk W9 Q3y (qc (gg (8 * i + q))) 78 := h_
     clear h_
     replace k_t2 := k_t2.p hO nq_t2_t5
     replace k_t4 := k_t4.p hO nq_t4_t5
     replace off0 := off0.p hO J9n
     clear hO
     refine J0 ?_
     by_cases hbit : le l / 2 ^ (8 * i + q) % 2 = 1
     ·
      have _f := hbit
      obtain ⟨cc, hli⟩ : ∃ c, l[i]? = some c := ⟨_, List.getElem?_eq_getElem (by omega)⟩
      have hcq : cc.toNat / 2 ^ q < 256 := Nat.lt_of_le_of_lt (Nat.div_le_self _ _) (UInt8.toNat_lt _)
      have H_li := Lib.hid hli
      have hrem : cc.toNat / 2 ^ q % 2 = 1 := by rw [Z8v hli (by omega)]; exact hbit
      have H_rem := Lib.hid hrem
      clear hrem hli
      have H_hbit := Lib.hid hbit
      clear _f hbit
      go_upto_region 9 with fail
      refine wp_region_lit ?_
      refine Lv ?_
      refine Lv ?_
      refine Lw ?_ (v := .int .u8 (cc.toNat : Int)) (hv := by exact Q5j H_li.out rfl rfl rfl)
      refine Lv ?_
      refine Lw ?_ (v := .int .u8 ((cc.toNat / 2 ^ q : Nat) : Int)) (hv := by exact Q9y (by omega) rfl rfl rfl)
      refine Lw ?_ (v := .int .u8 1) (hv := by exact Q9w H_rem.out hcq rfl rfl rfl)
      refine Lw ?_ (v := .bool true)
      refine J0 ?_
      go_upto_region 10 with fail
      refine wp_region_lit ?_
      refine L0 ?_ k_t5 (hi := by rw [J2y]; kernel_rfl)
      refine L0 ?_ k_t2 (hi := by rw [J3]; kernel_rfl)
      refine Lr ?_ (hst.ad H_hbit.out W9)
      intro W10 hO
      replace k_t2 := k_t2.o hO
      replace k_t4 := k_t4.o hO
      replace k_t5 := k_t5.o hO
      replace off0 := off0.o hO
      clear hO
      refine Lp ?_ k_t5 (cells := qc (f (8 * i + q))) (hi := by rw [J2y]; kernel_rfl) (hs := by first | rw [J2y, J2y] | rw [J2y] | kernel_rfl) (h1 := by exact Z1k)
      intro W11 hO h_
      replace k_t5 : Blk W11 Q3y (qc (f (8 * i + q))) 78 := h_
      clear h_
      replace k_t2 := k_t2.p hO nq_t2_t5
      replace k_t4 := k_t4.p hO nq_t4_t5
      replace off0 := off0.p hO J9n
      clear hO
      refine J0 ?_
      go_wp2
      go_roundw
      case rel => exact ⟨q, by omega, by go_num, off0, k_t2, k_t4, k_t5⟩
      case measure => first | (simp [intOf]; done) | (simp [intOf]; omega)
     ·
      have _f := hbit
      obtain ⟨cc, hli⟩ : ∃ c, l[i]? = some c := ⟨_, List.getElem?_eq_getElem (by omega)⟩
      have hcq : cc.toNat / 2 ^ q < 256 := Nat.lt_of_le_of_lt (Nat.div_le_self _ _) (UInt8.toNat_lt _)
      have H_li := Lib.hid hli
      have hrem : cc.toNat / 2 ^ q % 2 = 0 := by rw [Z8v hli (by omega)]; omega
      have H_rem := Lib.hid hrem
      clear hrem hli
      have H_hbit := Lib.hid hbit
      clear _f hbit
      go_upto_region 9 with fail
      refine wp_region_lit ?_
      refine Lv ?_
      refine Lv ?_
      refine Lw ?_ (v := .int .u8 (cc.toNat : Int)) (hv := by exact Q5j H_li.out rfl rfl rfl)
      refine Lv ?_
      refine Lw ?_ (v := .int .u8 ((cc.toNat / 2 ^ q : Nat) : Int)) (hv := by exact Q9y (by omega) rfl rfl rfl)
      refine Lw ?_ (v := .int .u8 0) (hv := by exact Q9w H_rem.out hcq rfl rfl rfl)
      refine Lw ?_ (v := .bool false)
      refine J0 ?_
      go_wp2
      go_roundw
      case rel => exact ⟨q, by omega, by go_num, off0, k_t2, k_t4, (by rw [hst.no H_hbit.out]; exact k_t5)⟩
      case measure => first | (simp [intOf]; done) | (simp [intOf]; omega)
end Go.Proofs.YtefpoollmbmkfaaDoor
