/- The sum of 32 bytes reckoned by numbers, for the kernel; "abc" has its sum. No conditions. custumaltop: stands. Conditions: sha2's tables hold their numbers. custumaltop: CustumalSigns. Conditions: the cells of the variables hold their numbers. -/
import Derived.Test.YtefpoollmbmkfaaDoorJ34
import Derived.Laws.BitsLemmas
import Derived.Test.YtefpoollmbmkfaaDoorGc
import Derived.Test.YtefpoollmbmkfaaDoorZSqI
import Derived.Test.YtefpoollmbmkfaaDoorJ23
set_option linter.unusedSimpArgs false
set_option linter.unusedVariables false
namespace Go.Proofs.YtefpoollmbmkfaaDoor.H2
open Go.RowKit
def n32 : Nat := 4294967296
theorem wrx32 (n : Int) (h0 : 0 ≤ n) (h1 : n < 2 ^ 32) : IntKind.u32.wrap n = n := by rw [IntKind.wrap_u32]; omega
theorem xor_nat4 (k : IntKind) (j : Nat) (hj : j ≤ k.bits) (hk : ∀ n : Int, 0 ≤ n → n < 2 ^ j → k.wrap n = n) (a b : Nat) (ha : a < 2 ^ j) (hb : b < 2 ^ j) : bits .xor k a b = ((a ^^^ b : Nat) : Int) := by
  have hp : 2 ^ j ≤ 2 ^ k.bits := Nat.pow_le_pow_right (by decide) hj
  have ha' : a % 2 ^ k.bits = a := Nat.mod_eq_of_lt (Nat.lt_of_lt_of_le ha hp)
  have hb' : b % 2 ^ k.bits = b := Nat.mod_eq_of_lt (Nat.lt_of_lt_of_le hb hp)
  simp only [bits, BitVec.ofInt_natCast, BitVec.toNat_xor, BitVec.toNat_ofNat, ha', hb']
  exact hk _ (Int.natCast_nonneg _) (by exact_mod_cast Nat.xor_lt_two_pow ha hb)
/-- the word x is the number a -/
def Wn4 (x : Int) (a : Nat) : Prop := x = (a : Int) ∧ a < 2 ^ 32
section
variable {x y : Int} {a b : Nat}
theorem Wn4.xo (h : Wn4 x a) (k : Wn4 y b) : Wn4 (xo4 x y) (a ^^^ b) := ⟨by rw [h.1, k.1]; exact xor_nat4 .u32 32 (by decide) wrx32 a b h.2 k.2, Nat.xor_lt_two_pow h.2 k.2⟩
theorem Wn4.an (h : Wn4 x a) (k : Wn4 y b) : Wn4 (an4 x y) (a &&& b) := ⟨by rw [h.1, k.1]; exact (bits_nat .u32 32 (by decide) wrx32 a b h.2 k.2).1, Nat.and_lt_two_pow _ k.2⟩
theorem Wn4.oo (h : Wn4 x a) (k : Wn4 y b) : Wn4 (oo4 x y) (a ||| b) := ⟨by rw [h.1, k.1]; exact (bits_nat .u32 32 (by decide) wrx32 a b h.2 k.2).2, Nat.or_lt_two_pow h.2 k.2⟩
theorem Wn4.nt (h : Wn4 x a) : Wn4 (nt4 x) (4294967295 ^^^ a) := ⟨by rw [h.1]; exact xor_nat4 .u32 32 (by decide) wrx32 _ a (by decide) h.2, Nat.xor_lt_two_pow (by decide) h.2⟩
theorem Wn4.ad (h : Wn4 x a) (k : Wn4 y b) : Wn4 (ad4 x y) ((a + b) % n32) := ⟨by rw [h.1, k.1]; show IntKind.wrap .u32 ((a : Int) + b) = _; unfold n32; rw [IntKind.wrap_u32]; omega, Nat.mod_lt _ (by decide)⟩
theorem Wn4.sl (h : Wn4 x a) (n : Nat) : Wn4 (sl4 x n) (a * 2 ^ n % n32) := ⟨by
  rw [h.1]; show IntKind.wrap .u32 ((a : Int) * 2 ^ n) = _; unfold n32
  rw [IntKind.wrap_u32, Int.natCast_emod, Int.natCast_mul, Int.natCast_pow]; rfl, Nat.mod_lt _ (by decide)⟩
theorem Wn4.sr (h : Wn4 x a) (n : Nat) : Wn4 (sr4 x n) (a / 2 ^ n) := ⟨by
  rw [h.1]; show (a : Int) / 2 ^ n = _
  rw [Int.natCast_ediv, Int.natCast_pow]; rfl, Nat.lt_of_le_of_lt (Nat.div_le_self _ _) h.2⟩
end
def rtN4 (a n : Nat) : Nat := a / 2 ^ n ||| a * 2 ^ (32 - n) % n32
theorem Wn4.rt {x : Int} {a : Nat} (h : Wn4 x a) (n : Nat) : Wn4 (rt4 x n) (rtN4 a n) := (h.sr n).oo (h.sl (32 - n))
/-! ### The words of a block -/
def wrdN4 (b : Nat → Nat) (i : Nat) : Nat → Nat
  | 0 => 0
  | k + 1 => wrdN4 b i k * 2 ^ 8 % n32 ||| b (4 * i + k)
def bN4 (l : List UInt8) (j : Nat) : Nat := (l.getD j 0).toNat
theorem bt_wn4 (l : List UInt8) (j : Nat) : Wn4 (bt l j) (bN4 l j) := ⟨rfl, Nat.lt_trans (l.getD j 0).toNat_lt (by decide)⟩
theorem wrd_wn4 (l : List UInt8) (i : Nat) : ∀ k, Wn4 (wrd4 (bt l) i k) (wrdN4 (bN4 l) i k)
  | 0 => ⟨rfl, Nat.two_pow_pos 32⟩
  | k + 1 => ((wrd_wn4 l i k).sl 8).oo (bt_wn4 l _)
/-- the next word of those behind it (the newest first) -/
def sgN4 (l : List Nat) : Nat :=
  let p := l.getD 14 0
  let q := l.getD 1 0
  (((l.getD 15 0 + (rtN4 p 7 ^^^ rtN4 p 18 ^^^ p / 2 ^ 3)) % n32 + l.getD 6 0) % n32 + (rtN4 q 17 ^^^ rtN4 q 19 ^^^ q / 2 ^ 10)) % n32
def schN4 (b : Nat → Nat) : Nat → List Nat
  | 0 => []
  | i + 1 => (if i < 16 then wrdN4 b i 4 else sgN4 (schN4 b i)) :: schN4 b i
theorem sch_wn4 (l : List UInt8) : ∀ i, ∀ j, j < i → Wn4 (sch4 (bt l) i j) ((schN4 (bN4 l) i).getD (i - 1 - j) 0)
  | 0, _, h => by omega
  | i + 1, j, h => by
    have ih := sch_wn4 l i
    show Wn4 (upd (sch4 (bt l) i) i (if i < 16 then wrd4 (bt l) i 4 else sg4 (sch4 (bt l) i) i) j) _
    unfold upd schN4
    by_cases e : j = i
    · subst e
      rw [if_pos rfl, show j + 1 - 1 - j = 0 by omega, List.getD_cons_zero]
      by_cases h16 : j < 16
      · rw [if_pos h16, if_pos h16]; exact wrd_wn4 l j 4
      · rw [if_neg h16, if_neg h16]
        have g : ∀ m, m < 16 → Wn4 (sch4 (bt l) j (j - (m + 1))) ((schN4 (bN4 l) j).getD m 0) := fun m hm => by
          have := ih (j - (m + 1)) (by omega)
          rwa [show j - 1 - (j - (m + 1)) = m by omega] at this
        have g14 := g 14 (by decide)
        have g1 := g 1 (by decide)
        exact (((g 15 (by decide)).ad (((g14.rt 7).xo (g14.rt 18)).xo (g14.sr 3))).ad (g 6 (by decide))).ad (((g1.rt 17).xo (g1.rt 19)).xo (g1.sr 10))
    · rw [if_neg e, show i + 1 - 1 - j = (i - 1 - j) + 1 by omega, List.getD_cons_succ]
      exact ih j (by omega)
/-! ### The rounds -/
abbrev E8 := Nat × Nat × Nat × Nat × Nat × Nat × Nat × Nat
def rndN4 (k w : Nat) : E8 → E8
  | (a, b, c, d, e, f, g, h) =>
    let t := ((((h + (rtN4 e 6 ^^^ rtN4 e 11 ^^^ rtN4 e 25)) % n32 + ((e &&& f) ^^^ ((4294967295 ^^^ e) &&& g))) % n32 + k) % n32 + w) % n32
    let u := ((rtN4 a 2 ^^^ rtN4 a 13 ^^^ rtN4 a 22) + ((a &&& b) ^^^ (a &&& c) ^^^ (b &&& c))) % n32
    ((t + u) % n32, a, b, c, (d + t) % n32, e, f, g)
def Wn84 (v : Nat → Int) : E8 → Prop
  | (a, b, c, d, e, f, g, h) => Wn4 (v 0) a ∧ Wn4 (v 1) b ∧ Wn4 (v 2) c ∧ Wn4 (v 3) d ∧ Wn4 (v 4) e ∧ Wn4 (v 5) f ∧ Wn4 (v 6) g ∧ Wn4 (v 7) h
theorem rnd_wn4 {k w v : Nat → Int} {i kn wn : Nat} {s : E8} (hk : Wn4 (k i) kn) (hw : Wn4 (w i) wn) (h : Wn84 v s) : Wn84 (rnd4 k w i v) (rndN4 kn wn s) := by
  obtain ⟨a, b, c, d, e, f, g, h'⟩ := s
  obtain ⟨h0, h1, h2, h3, h4, h5, h6, h7⟩ := h
  have hT : Wn4 (rT4 k w i v) _ := (((h7.ad (((h4.rt 6).xo (h4.rt 11)).xo (h4.rt 25))).ad ((h4.an h5).xo (h4.nt.an h6))).ad hk).ad hw
  have hU : Wn4 (rU4 v) _ := (((h0.rt 2).xo (h0.rt 13)).xo (h0.rt 22)).ad (((h0.an h1).xo (h0.an h2)).xo (h1.an h2))
  exact ⟨hT.ad hU, h0, h1, h2, h3.ad hT, h4, h5, h6⟩
def kkN4 (i : Nat) : Nat := (kk4.getD i 0).toNat
theorem kf_wn4 (i : Nat) (h : i < 64) : Wn4 (kf4 i) (kkN4 i) := by
  have key : ((List.range 64).all fun i => decide (kf4 i = (kkN4 i : Int)) && decide (kkN4 i < 2 ^ 32)) = true := by decide +kernel
  have := List.all_eq_true.1 key i (List.mem_range.2 h)
  simp only [Bool.and_eq_true, decide_eq_true_eq] at this
  exact this
def rndsN4 (W : List Nat) (s : E8) : Nat → E8
  | 0 => s
  | i + 1 => rndN4 (kkN4 i) (W.getD (63 - i) 0) (rndsN4 W s i)
theorem rnds_wn4 {l : List UInt8} {v : Nat → Int} {s : E8} (h : Wn84 v s) : ∀ i, i ≤ 64 → Wn84 (rnds4 kf4 (sch4 (bt l) 64) v i) (rndsN4 (schN4 (bN4 l) 64) s i)
  | 0, _ => h
  | i + 1, hi => rnd_wn4 (kf_wn4 i (by omega)) (by have := sch_wn4 l 64 i (by omega); rwa [show 64 - 1 - i = 63 - i by omega] at this) (rnds_wn4 h i (by omega))
def prsN4 (l : List UInt8) (s : E8) : E8 :=
  match s, rndsN4 (schN4 (bN4 l) 64) s 64 with
  | (a, b, c, d, e, f, g, h), (a', b', c', d', e', f', g', h') => ((a + a') % n32, (b + b') % n32, (c + c') % n32, (d + d') % n32, (e + e') % n32, (f + f') % n32, (g + g') % n32, (h + h') % n32)
theorem prs_wn4 {l : List UInt8} {v : Nat → Int} {s : E8} (h : Wn84 v s) : Wn84 (prs4 v (bt l)) (prsN4 l s) := by
  have h2 := rnds_wn4 (l := l) h 64 (Nat.le_refl _)
  unfold prsN4
  generalize rndsN4 (schN4 (bN4 l) 64) s 64 = s2 at *
  obtain ⟨a, b, c, d, e, f, g, h'⟩ := s
  obtain ⟨a2, b2, c2, d2, e2, f2, g2, k2⟩ := s2
  obtain ⟨h0, h1, h2', h3, h4, h5, h6, h7⟩ := h
  obtain ⟨k0, k1, k2', k3, k4, k5, k6, k7⟩ := h2
  exact ⟨h0.ad k0, h1.ad k1, h2'.ad k2', h3.ad k3, h4.ad k4, h5.ad k5, h6.ad k6, h7.ad k7⟩
def H0N4 : E8 := (1779033703, 3144134277, 1013904242, 2773480762, 1359893119, 2600822924, 528734635, 1541459225)
theorem H0_wn4 : Wn84 hf4 H0N4 := by refine ⟨⟨?_, ?_⟩, ⟨?_, ?_⟩, ⟨?_, ?_⟩, ⟨?_, ?_⟩, ⟨?_, ?_⟩, ⟨?_, ?_⟩, ⟨?_, ?_⟩, ⟨?_, ?_⟩⟩ <;> decide +kernel
def HsN4 (P : List UInt8) : Nat → E8
  | 0 => H0N4
  | j + 1 => prsN4 (P.drop (64 * j)) (HsN4 P j)
theorem Hs_wn4 (P : List UInt8) : ∀ j, Wn84 (Hs4 P j) (HsN4 P j)
  | 0 => H0_wn4
  | j + 1 => prs_wn4 (Hs_wn4 P j)
theorem ob_wn4 {H : Nat → Int} {i a : Nat} (h : Wn4 (H i) a) (k : Nat) (hk : k < 4) : ob4 H (4 * i + k) = ((a / 2 ^ (8 * (3 - k)) % 256 : Nat) : Int) := by
  unfold ob4
  rw [show (4 * i + k) / 4 = i by omega, show (4 * i + k) % 4 = k by omega, (h.sr (8 * (3 - k))).1]
  unfold w8
  rw [IntKind.wrap_u8]; omega
/-- the sum of "abc": its first byte, its last one -/
theorem abc4 : sm4 [97, 98, 99] 0 = 186 ∧ sm4 [97, 98, 99] 31 = 173 := by
  have key : (HsN4 (pad4 [97, 98, 99]) (nb4 3)).1 / 2 ^ (8 * (3 - 0)) % 256 = 186 ∧ (HsN4 (pad4 [97, 98, 99]) (nb4 3)).2.2.2.2.2.2.2 / 2 ^ (8 * (3 - 3)) % 256 = 173 := by decide +kernel
  have h := Hs_wn4 (pad4 [97, 98, 99]) (nb4 3)
  have e : sm4 [97, 98, 99] = ob4 (Hs4 (pad4 [97, 98, 99]) (nb4 3)) := rfl
  rw [e]
  generalize Hs4 (pad4 [97, 98, 99]) (nb4 3) = H at *
  generalize HsN4 (pad4 [97, 98, 99]) (nb4 3) = s at *
  obtain ⟨a, b, c, d, e, f, g, k⟩ := s
  obtain ⟨h0, _, _, _, _, _, _, h7⟩ := h
  refine ⟨?_, ?_⟩
  · have := ob_wn4 (i := 0) h0 0 (by decide); rw [key.1] at this; exact this
  · have := ob_wn4 (i := 7) h7 3 (by decide); rw [key.2] at this; exact this
end Go.Proofs.YtefpoollmbmkfaaDoor.H2

set_option linter.unusedSimpArgs false
set_option linter.unusedVariables false
namespace Go.Proofs.YtefpoollmbmkfaaDoor
set_option maxHeartbeats 1500000
set_option maxRecDepth 100000
open Go.RowKit
attribute [local irreducible] wpList
set_option linter.unusedSimpArgs false
attribute [local irreducible] H2.sm4

theorem stands_c (w : World) (hG : H2.GS4 w) :
  Calls Tryd.prog 35 #[] w fun e w' => Ret (.bool true) w w' e := by
 have off0 : Off [] w w := Off.refl _ _
 go_enter Tryd.func35, Tryd.ntmps35
 go_upto_region 1 with fail
 refine wp_region_lit ?_
 refine LnS ?_ (z := #[.int .u8 97, .int .u8 98, .int .u8 99]) (t := 5) (n := 3) (c := 3)
 intro p2_1 W1 n_s2 hO h_
 have fr_s2 : Fr (Value.ownBlock (.slice (some ⟨p2_1, 0, none⟩) 3 3)) w.heap.size [] := frn off0 n_s2
 replace off0 := off0.o hO
 have ow_s2 : Own W1 (.slice (some ⟨p2_1, 0, none⟩) 3 3) [97, 98, 99] := own_blk h_ (by rfl) (by show 3 ≤ maxLen; decide)
 clear hO h_ n_s2
 refine wpL_same ow_s2 rfl (by rfl) rfl rfl ?_
 (try simp only [Act.put, mA, mB, mC])
 intro W2 hO ow_m3
 replace off0 := off0.step hO (io fr_s2)
 clear ow_s2 fr_s2
 clear hO
 refine LnS ?_ (z := #[(.slice (some ⟨p2_1, 0, none⟩) 3 3)]) (t := 23) (n := 1) (c := 1) (hr := by exact run_bsv [(.slice (some ⟨p2_1, 0, none⟩) 3 3)] rfl rfl (vsc ((sl_cells ow_m3).1) vs0) Tryd.underlying112 (by kernel_rfl) (by kernel_rfl) rfl (by decide) (by decide))
 intro p4_3 W3 n_s4 hO h_
 replace ow_m3 := Sl.off ow_m3 hO f0
 replace off0 := off0.o hO
 have k_s4 := h_
 clear hO h_ n_s4
 refine Lr ?_ (H2.sum4_c [[97, 98, 99]] (some ⟨p4_3, 0, none⟩) 1 [97, 98, 99] (by simp only [List.flatten_cons, List.flatten_nil, List.append_nil, List.nil_append, List.append_assoc, List.cons_append]) (by first | omega | (simp only [List.length_append, List.length_cons, List.length_nil, lb_length]; omega)) (by simp) W3 (pss_blk k_s4 (pvc ow_m3 pv0)) (H2.GS_ext4 hG off0.ext))
 intro W4 hO
 replace off0 := off0.o hO
 clear hO
 refine LnA ?_ (z := arrK .u8 32 (byt 0)) (t := 22) (k := .u8) (n := 32) (f := H2.sm4 [97, 98, 99])
 intro p1_5 W6 n_t1 hO h_
 replace off0 := off0.o hO
 have k_t1 := h_
 clear hO h_ n_t1
 refine wpL_nil ?_
 go_upto_region 2 with fail
 refine wp_region_lit ?_
 refine Lw ?_ (v := .pointer (some ⟨p1_5, 0 + 0, none⟩)) (hv := run_ixarr (m := 32) (by decide) (by decide) Tryd.underlying22 (by kernel_rfl) rfl rfl rfl)
 refine Lg ?_ k_t1 (v := .int .u8 ((H2.sm4 [97, 98, 99]) 0)) (hj := by rw [Nat.zero_add]; exact arrK_get _ _ _ _ (by decide))
 refine Lw ?_ (v := .bool true) (hv := by first | (go_simp; done) | (go_simp; simp only [H2.abc4.1]; done) | (go_simp; simp only [H2.abc4.1]; decide))
 refine Lw ?_ (v := .bool true)
 refine Lw ?_ (v := .pointer (some ⟨p1_5, 0 + 31, none⟩)) (hv := run_ixarr (m := 32) (by decide) (by decide) Tryd.underlying22 (by kernel_rfl) rfl rfl rfl)
 refine Lg ?_ k_t1 (v := .int .u8 ((H2.sm4 [97, 98, 99]) 31)) (hj := by rw [Nat.zero_add]; exact arrK_get _ _ _ _ (by decide))
 refine Lw ?_ (v := .bool true) (hv := by first | (go_simp; done) | (go_simp; simp only [H2.abc4.2]; done) | (go_simp; simp only [H2.abc4.2]; decide))
 refine Lw ?_ (v := .bool true)
 refine Lw ?_ (v := .bool true)
 refine wpL_nil ?_
 go_wp2
 exact bodyPost_ret (v := .bool true) (by simp only [results, Tryd.results35]; go_simp) rfl ⟨rfl, off0.ext⟩
end Go.Proofs.YtefpoollmbmkfaaDoor

set_option linter.unusedSimpArgs false
set_option linter.unusedVariables false
namespace Go.Proofs.YtefpoollmbmkfaaDoor
set_option maxHeartbeats 2000000
set_option maxRecDepth 100000
open Go.RowKit
attribute [local irreducible] wpList wpTr
variable {kn : Kn}
open Sc (LL clampF)
theorem copy_arr (V : Nat) : (bs8 (lb 32 V)).toArray = arrK .u8 32 (byt V) := by rw [bs8_lb, ← arrK_list]
/-- 32 bytes copied over an array -/
theorem wpL_copyA {ops : Array Oper} {Q : Exit → Act → World → Prop} {w : World} {r : List Oper} {o : Oper} {a : Act} {x y : Operand} {v : Value} {V : Nat} {g : Nat} {f : Nat → Int} {t : TypeId} {c : Nat} (hs : Sl w v (lb 32 V)) (hB : Blk w g (arrK .u8 32 f) t) (hw : Region.wanted o (yielded ops a.tmps) = true)
    (ho : o.op = .call { callee := .builtin .copy, args := #[x, y], argTypes := #[23, 23] }) (hx : a.eval x = .slice (some ⟨g, 0, none⟩) 32 c) (hy : a.eval y = v)
    (h : ∀ W, Off [g] w W → Blk W g (arrK .u8 32 (byt V)) t → wpList Tryd.prog ops Q r (a.put o.dst (goInt 32)) W) : wpList Tryd.prog ops Q (o :: r) a w :=
  wpL_copy hs hB (by rw [arrK_size, lb_length]) (lb_length 32 V).symm (by rw [lb_length]; decide) hw ho hx hy fun W h1 h2 => by
    rw [lb_length]; exact h W h1 (by rw [← copy_arr]; exact h2)
end Go.Proofs.YtefpoollmbmkfaaDoor
