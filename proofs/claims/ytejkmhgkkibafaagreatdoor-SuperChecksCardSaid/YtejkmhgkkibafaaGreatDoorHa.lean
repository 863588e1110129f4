/- Contracts and plain laws that superChecks_holds rests on. Conditions: the variables' cells hold the numbers of the program's text. -/
import Derived.Test.YtejkmhgkkibafaaGreatDoorGc
import Derived.Laws.BitsLemmas
open Go.RowKit
set_option maxRecDepth 100000
set_option linter.unusedSimpArgs false
set_option linter.unusedVariables false
namespace Go.Proofs.YtejkmhgkkibafaaGreatDoor
section
set_option maxHeartbeats 4000000

def xo (p q : Int) : Int := bits .xor .u64 p q
def an (p q : Int) : Int := bits .and .u64 p q
def oo (p q : Int) : Int := bits .or .u64 p q
def nt (p : Int) : Int := bits .xor .u64 18446744073709551615 p
def ad (p q : Int) : Int := IntKind.wrap .u64 (p + q)
def sl (p : Int) (n : Nat) : Int := IntKind.wrap .u64 (p * 2 ^ n)
def sr (p : Int) (n : Nat) : Int := p / 2 ^ n
def rt (p : Int) (n : Nat) : Int := oo (sr p n) (sl p (64 - n))
theorem Y01 (p q : Int) : oo p q = oo q p := by unfold oo; simp only [bits, BitVec.or_comm]
section
variable {P : Program} {w : World} {o : Oper} {a : Act} {x y : Operand} {t t' : TypeId} {p q : Int}
theorem J0n (ho : o.op = .binOp .xor t x y t') (hx : a.eval x = .int .u64 p) (hy : a.eval y = .int .u64 q) : (execOp a.eval o).run P w = .ok (.value (.int .u64 (xo p q))) w := by
  simp only [execOp, ho, hx, hy]; rfl
theorem J3w (ho : o.op = .binOp .and t x y t') (hx : a.eval x = .int .u64 p) (hy : a.eval y = .int .u64 q) : (execOp a.eval o).run P w = .ok (.value (.int .u64 (an p q))) w := by
  simp only [execOp, ho, hx, hy]; rfl
theorem Q4p (ho : o.op = .binOp .or t x y t') (hx : a.eval x = .int .u64 p) (hy : a.eval y = .int .u64 q) : (execOp a.eval o).run P w = .ok (.value (.int .u64 (oo p q))) w := by
  simp only [execOp, ho, hx, hy]; rfl
theorem J1f (ho : o.op = .binOp .add t x y t') (hx : a.eval x = .int .u64 p) (hy : a.eval y = .int .u64 q) : (execOp a.eval o).run P w = .ok (.value (.int .u64 (ad p q))) w := by
  simp only [execOp, ho, hx, hy]; rfl
theorem Z0l (ho : o.op = .unOp .xor t x) (hx : a.eval x = .int .u64 p) : (execOp a.eval o).run P w = .ok (.value (.int .u64 (nt p))) w := by
  simp only [execOp, ho, hx]; rfl
theorem J2l {k : IntKind} {n : Nat} (hn : n ≤ 64) (ho : o.op = .binOp .shl t x y t') (hx : a.eval x = .int .u64 p) (hy : a.eval y = .int k (n : Int)) : (execOp a.eval o).run P w = .ok (.value (.int .u64 (sl p n))) w := by
  have h : min ((n : Int)).toNat IntKind.u64.bits = n := by rw [Int.toNat_natCast]; exact Nat.min_eq_left hn
  simp only [execOp, ho, hx, hy, eqGuard, binOp, Sem.run_bind]
  simp [Op.shift, h, sl, go_sem, Sem.run_bind]
theorem J09 {k : IntKind} {n : Nat} (hn : n ≤ 64) (ho : o.op = .binOp .shr t x y t') (hx : a.eval x = .int .u64 p) (hy : a.eval y = .int k (n : Int)) : (execOp a.eval o).run P w = .ok (.value (.int .u64 (sr p n))) w := by
  have h : min ((n : Int)).toNat IntKind.u64.bits = n := by rw [Int.toNat_natCast]; exact Nat.min_eq_left hn
  simp only [execOp, ho, hx, hy, eqGuard, binOp, Sem.run_bind]
  simp [Op.shift, h, sr, go_sem, Sem.run_bind]
end
end

section
set_option maxHeartbeats 4000000
attribute [local irreducible] wpList

theorem Y9g (n : Nat) (h1 : 1 ≤ n) (h2 : n ≤ 63) : bits .and .u64 (18446744073709551616 - (n : Int)) 63 = ((64 - n : Nat) : Int) := by
  obtain ⟨m, hm⟩ : ∃ m : Nat, m = 18446744073709551616 - n := ⟨_, rfl⟩
  have e : (18446744073709551616 - (n : Int)) = (m : Int) := by omega
  have D : (BitVec.ofInt 64 63).toNat = 2 ^ 6 - 1 := by decide
  have G : (BitVec.ofInt 64 (m : Int) &&& BitVec.ofInt 64 63).toNat = m % 2 ^ 6 := by
    rw [BitVec.toNat_and, BitVec.toNat_ofInt, D, Nat.and_two_pow_sub_one_eq_mod]
    omega
  rw [e]
  show IntKind.u64.wrap ((BitVec.ofInt 64 (m : Int) &&& BitVec.ofInt 64 63).toNat : Nat) = _
  rw [G, IntKind.wrap_u64]
  omega

theorem Y5x (p : Int) (n : Nat) (h1 : 1 ≤ n) (h2 : n ≤ 63) (w : World) :
  Calls Tryz.prog 183 #[.int .u64 p, .int .i64 (-(n : Int))] w fun e w' => K7 (.int .u64 (rt p n)) w w' e := by
 have n0 : (1 : Int) ≤ (n : Int) := by omega
 have n1 : (n : Int) ≤ 63 := by omega
 have ha := Y9g n h1 h2
 have D : Off [] w w := Off.refl _ _
 go_enter Tryz.func183, Tryz.ntmps183
 go_upto_region 1 with fail
 refine wp_region_lit ?_
 refine Lv ?_
 refine Lw ?_ (v := .int .u64 (18446744073709551616 - (n : Int))) (hv := by go_simp; (try simp only [IntKind.wrap_u64, IntKind.wrap_i64]); (try omega))
 refine Lw ?_ (v := .int .u64 (((64 - n : Nat) : Int))) (hv := by first | (go_simp; done) | (go_simp; (try rw [ha]); (try omega)))
 refine Lv ?_
 refine J9 ?_
 go_upto_region 2 with fail
 refine wp_region_lit ?_
 refine Lv ?_
 refine Lv ?_
 refine Lw ?_ (v := .int .u64 (sl p (64 - n))) (hv := J2l (n := (64 - n)) (by omega) rfl rfl rfl)
 refine Lv ?_
 refine Lv ?_
 refine Lw ?_ (v := .int .u64 ((n : Int))) (hv := by go_simp; (try simp only [IntKind.wrap_u64, IntKind.wrap_i64]); (try omega))
 refine Lw ?_ (v := .int .u64 (sr p n)) (hv := J09 (n := n) (by omega) rfl rfl rfl)
 refine Lw ?_ (v := .int .u64 (oo (sl p (64 - n)) (sr p n))) (hv := Q4p rfl rfl rfl)
 refine Lv ?_
 refine J9 ?_
 go_wp2
 exact bodyPost_ret (v := .int .u64 (oo (sl p (64 - n)) (sr p n))) (by simp only [results, Tryz.results183]; go_simp) rfl ⟨congrArg (fun z => Ending.returned (.int .u64 z)) (Y01 _ _), D.ext⟩
theorem J5i (p : Int) (n : Nat) (h1 : 1 ≤ n) (h2 : n ≤ 63) (w : World) :
  Calls Tryz.prog 176 #[.int .u64 p, .int .i64 (n : Int)] w fun e w' => K7 (.int .u64 (rt p n)) w w' e := by
 have n0 : (1 : Int) ≤ (n : Int) := by omega
 have n1 : (n : Int) ≤ 63 := by omega
 have D : Off [] w w := Off.refl _ _
 go_enter Tryz.func176, Tryz.ntmps176
 go_upto_region 1 with fail
 refine wp_region_lit ?_
 refine Lv ?_
 refine Lv ?_
 refine Lw ?_ (v := .int .i64 (-(n : Int))) (hv := by go_simp; (try simp only [IntKind.wrap_u64, IntKind.wrap_i64]); (try omega))
 refine Lr ?_ (Y5x p n h1 h2 w)
 intro W1 hO
 replace D := D.o hO
 clear hO
 refine Lv ?_
 refine J9 ?_
 go_wp2
 exact bodyPost_ret (v := .int .u64 (rt p n)) (by simp only [results, Tryz.results176]; go_simp) rfl ⟨rfl, D.ext⟩
theorem J3x (p : Int) (n : Nat) (h1 : 1 ≤ n) (h2 : n ≤ 63) (w : World) :
  Calls Tryz.prog 118 #[.int .u64 p, .int .i64 (n : Int)] w fun e w' => K7 (.int .u64 (rt p n)) w w' e := by
 have n0 : (1 : Int) ≤ (n : Int) := by omega
 have n1 : (n : Int) ≤ 63 := by omega
 have D : Off [] w w := Off.refl _ _
 go_enter Tryz.func118, Tryz.ntmps118
 go_upto_region 1 with fail
 refine J14 9 [] (by kernel_rfl) (fun x hx => by cases hx) (by kernel_rfl) ?_
 simp only [List.take_succ_cons, List.take_zero, List.take_nil]
 (try simp only [Act.put, mA, mB, mC])
 refine Xv ?_
 refine Xv ?_
 refine Xw ?_ (v := .int .u64 (sr p n)) (hv := fun _ _ => J09 (n := n) (by omega) rfl rfl rfl)
 refine Xv ?_
 refine Xv ?_
 refine Xw ?_ (v := .int .i64 (((64 - n : Nat) : Int))) (hv := fun _ _ => by go_simp; (try simp only [IntKind.wrap_u64, IntKind.wrap_i64]); (try omega))
 refine Xw ?_ (v := .int .u64 (sl p (64 - n))) (hv := fun _ _ => J2l (n := (64 - n)) (by omega) rfl rfl rfl)
 refine Xw ?_ (v := .int .u64 (oo (sr p n) (sl p (64 - n)))) (hv := fun _ _ => Q4p rfl rfl rfl)
 refine Xv ?_
 refine V7 ?_
 intro β W1 hE hN hD
 clear hN hD
 simp only [J05, Act.put, mA, mB, mC, List.drop_succ_cons, List.drop_zero, List.drop_nil, List.length_nil, Nat.add_zero]
 have hO := J0d hE
 replace D := D.o hO
 clear hO hE β
 refine LN ?_
 go_wp2
 exact bodyPost_ret (v := .int .u64 (oo (sr p n) (sl p (64 - n)))) (by simp only [results, Tryz.results118]; go_simp) rfl ⟨rfl, D.ext⟩
end

section
set_option maxHeartbeats 4000000
attribute [local irreducible] wpList

theorem Z5g {w : World} {o : Oper} {a : Act} {x : Operand} {c : UInt8} (ho : o.op = .convert 5 71 x) (hx : a.eval x = .int .u8 (c.toNat : Int)) : (execOp a.eval o).run Tryz.prog w = .ok (.value (.int .u64 (c.toNat : Int))) w := by
  have hc := c.toNat_lt
  have hw : IntKind.wrap .u64 (c.toNat : Int) = (c.toNat : Int) := by rw [IntKind.wrap_u64]; omega
  simp [execOp, ho, hx, convert, run_underlying Tryz.underlying5, run_underlying Tryz.underlying71, Sem.run_bind, Conv.intToInt, hw]
def wrd (b : Nat → Int) (i : Nat) : Nat → Int
  | 0 => 0
  | k + 1 => oo (sl (wrd b i k) 8) (b (8 * i + k))
def sg (f : Nat → Int) (i : Nat) : Int := ad (ad (ad (f (i - 16)) (xo (xo (rt (f (i - 15)) 1) (rt (f (i - 15)) 8)) (sr (f (i - 15)) 7))) (f (i - 7))) (xo (xo (rt (f (i - 2)) 19) (rt (f (i - 2)) 61)) (sr (f (i - 2)) 6))
def Z5 (b : Nat → Int) : Nat → Nat → Int
  | 0 => fun _ => 0
  | i + 1 => upd (Z5 b i) i (if i < 16 then wrd b i 8 else sg (Z5 b i) i)
theorem Z5h {b : Nat → Int} {i : Nat} (h : 16 ≤ i) : upd (Z5 b i) i (sg (Z5 b i) i) = Z5 b (i + 1) := by
  show _ = upd (Z5 b i) i (if i < 16 then wrd b i 8 else sg (Z5 b i) i)
  rw [if_neg (by omega)]
theorem Z5i (b : Nat → Int) : ∀ i, i ≤ 16 → ∀ j, Z5 b i j = if j < i then wrd b j 8 else 0
  | 0, _, j => by simp [Z5]
  | i + 1, h, j => by
    show upd (Z5 b i) i (if i < 16 then wrd b i 8 else sg (Z5 b i) i) j = _
    rw [if_pos (by omega)]
    unfold upd
    by_cases hj : j = i
    · rw [if_pos hj, if_pos (by omega), hj]
    · rw [if_neg hj, Z5i b i (by omega) j]
      by_cases hl : j < i
      · rw [if_pos hl, if_pos (by omega)]
      · rw [if_neg hl, if_neg (by omega)]
def fst (b : Nat → Int) (n j : Nat) : Int := if j < n / 8 then wrd b j 8 else if j = n / 8 then wrd b j (n % 8) else 0
theorem Q6v (b : Nat → Int) (n : Nat) : upd (fst b n) (n / 8) (oo (sl (fst b n (n / 8)) 8) (b n)) = fst b (n + 1) := by
  funext j
  have e : fst b n (n / 8) = wrd b (n / 8) (n % 8) := by unfold fst; rw [if_neg (by omega), if_pos rfl]
  have hb : b n = b (8 * (n / 8) + n % 8) := by rw [Nat.div_add_mod]
  rw [e, hb]
  show (if j = n / 8 then wrd b (n / 8) (n % 8 + 1) else fst b n j) = fst b (n + 1) j
  unfold fst
  by_cases hm : n % 8 = 7
  · have h1 : (n + 1) / 8 = n / 8 + 1 := by omega
    have h2 : (n + 1) % 8 = 0 := by omega
    rw [h1, h2, hm]
    by_cases hj : j = n / 8
    · rw [if_pos hj, if_pos (by omega), hj]
    rw [if_neg hj]
    by_cases hl : j < n / 8
    · rw [if_pos hl, if_pos (by omega)]
    rw [if_neg hl, if_neg hj, if_neg (by omega)]
    split
    · rfl
    rfl
  have h1 : (n + 1) / 8 = n / 8 := by omega
  have h2 : (n + 1) % 8 = n % 8 + 1 := by omega
  rw [h1, h2]
  by_cases hj : j = n / 8
  · rw [if_pos hj, if_neg (by omega), if_pos hj, hj]
  rw [if_neg hj]
  by_cases hl : j < n / 8
  · rw [if_pos hl, if_pos hl]
  rw [if_neg hl, if_neg hj, if_neg hl, if_neg hj]
theorem Z0m (b : Nat → Int) : fst b 128 = Z5 b 16 := by
  funext j
  rw [Z5i b 16 (Nat.le_refl _) j]
  unfold fst
  by_cases h : j < 16
  · rw [if_pos (by omega), if_pos h]
  rw [if_neg (by omega), if_neg h]
  split
  · rename_i h2; rw [show 128 % 8 = 0 by rfl]; rfl
  rfl
theorem Q6w (b : Nat → Int) : fst b 0 = fun _ => 0 := by
  funext j
  unfold fst
  rw [if_neg (by omega)]
  split <;> rfl

theorem Z5j (l : List UInt8) (adr : Addr) (c : Nat) (hl : 128 ≤ l.length) (w : World) (hs : Sl w (.slice (some adr) l.length c) l) :
  Calls Tryz.prog 175 #[.slice (some adr) l.length c] w fun e w' => K7 (.agg (J0 .u64 80 (Z5 (bt l) 80))) w w' e := by
 have D : Off [] w w := Off.refl _ _
 have K1 := hs
 go_enter Tryz.func175, Tryz.ntmps175
 go_upto_region 0 with fail
 refine wp_region_lit ?_
 refine Ln ?_ (z := J0 .u64 80 (fun _ => 0)) (t := 187)
 intro X5 W1 X hO h_
 have Z := fbn D X
 replace K1 := Sl.off K1 hO f0
 replace D := D.o hO
 have J := h_
 clear hO h_ X
 refine J9 ?_
 go_upto_region 1 with fail
 refine wp_region_lit ?_
 refine Ln ?_ (z := J0 .u64 80 (fun _ => 0)) (t := 187)
 intro M W2 N hO h_
 have Y := bn J N
 have T := J72 (Sl.lt K1) N
 have U := fbn D N
 replace J := J.o hO
 replace K1 := Sl.off K1 hO f0
 replace D := D.o hO
 have G := h_
 clear hO h_ N
 refine J9 ?_
 go_wp2_with fail
 go_loopw [8] (fun ii wr => ∃ (n : Nat), (n ≤ 128) ∧ (ii = .int .i64 (n : Int)) ∧ Off [] w wr ∧ Blk wr X5 (J0 .u64 80 (fun _ => 0)) 187 ∧ Blk wr M (J0 .u64 80 (fst (bt l) n)) 187 ∧ Sl wr (.slice (some adr) l.length c) l)
  (fun ii _ => 128 - (intOf ii).toNat)
 case atStart => exact ⟨0, Nat.zero_le _, rfl, D, J, (by rw [Q6w]; exact G), K1⟩
 case round =>
  obtain ⟨n, hn, rfl, D, J, G, K1⟩ := hrel
  obtain ⟨W3, R⟩ := J54 D
  subst R
  by_cases S : n < 128
  ·
   go_upto_region 3 with fail
   refine wp_region_lit ?_
   refine Lw ?_ (v := .bool true)
   refine J9 ?_
   go_upto_region 5 with fail
   refine J14 14 [] (by kernel_rfl) (fun x hx => by cases hx) (by kernel_rfl) ?_
   simp only [List.take_succ_cons, List.take_zero, List.take_nil]
   (try simp only [Act.put, mA, mB, mC])
   refine Xv ?_
   refine Xw ?_ (v := .int .i64 (((n / 8 : Nat) : Int))) (hv := fun _ _ => by go_simp; (try simp only [IntKind.wrap_u64, IntKind.wrap_i64]); (try omega))
   refine Xv ?_
   refine Xw ?_ (v := .int .i64 (((n / 8 : Nat) : Int))) (hv := fun _ _ => by go_simp; (try simp only [IntKind.wrap_u64, IntKind.wrap_i64]); (try omega))
   refine Xw ?_ (v := .pointer (some ⟨M, 0 + (n / 8), none⟩)) (hv := fun _ _ => J5 (m := 80) (by decide) (by omega) Tryz.underlying187 (by kernel_rfl) rfl rfl rfl)
   refine Xc ?_ (v := .int .u64 ((fst (bt l) n) (n / 8))) (K4 G) (hj := by rw [Nat.zero_add]; exact J3 _ _ _ _ (by omega))
   refine Xw ?_ (v := .int .u64 (sl ((fst (bt l) n) (n / 8)) 8)) (hv := fun _ _ => J2l (n := 8) (by decide) rfl rfl rfl)
   refine Xv ?_
   refine Xv ?_
   refine Xw ?_ (v := .pointer (some (adr.add n))) (hv := fun W hW => Q0x (j := n) (by omega) rfl rfl rfl)
   refine Z5c (by rfl) rfl rfl (fun W hW => J24 (Q6o K1 (J7s (by omega))) hW) (by kernel_rfl) ?_
   (try simp only [Act.put, mA, mB, mC])
   refine Xw ?_ (v := .int .u64 (bt l n)) (hv := fun _ _ => by exact Z5g rfl rfl)
   refine Xw ?_ (v := .int .u64 (oo (sl ((fst (bt l) n) (n / 8)) 8) (bt l n))) (hv := fun _ _ => Q4p rfl rfl rfl)
   refine Xw ?_ (v := .pointer (some ⟨M, 0 + (n / 8), none⟩)) (hv := fun _ _ => J5 (m := 80) (by decide) (by omega) Tryz.underlying187 (by kernel_rfl) rfl rfl rfl)
   refine V7 ?_
   intro β W4 hE hN hD
   clear hN hD
   simp only [J05, Act.put, mA, mB, mC, List.drop_succ_cons, List.drop_zero, List.drop_nil, List.length_nil, Nat.add_zero]
   have hO := J0d hE
   replace J := J.o hO
   replace G := G.o hO
   replace K1 := Sl.off K1 hO f0
   replace D := D.o hO
   clear hO hE β
   refine J42 (v := .int .u64 (oo (sl ((fst (bt l) n) (n / 8)) 8) (bt l n))) ⟨rfl, rfl⟩ (by rfl) rfl rfl rfl G (by rw [J1, Nat.zero_add]; omega) (by kernel_rfl) ?_
   (try simp only [Act.put, mA, mB, mC])
   intro W5 hO h_
   rw [Nat.zero_add, V4] at h_
   replace G : Blk W5 M (J0 .u64 80 (upd (fst (bt l) n) (n / 8) (oo (sl ((fst (bt l) n) (n / 8)) 8) (bt l n)))) 187 := h_
   clear h_
   replace J := J.p hO Y
   replace K1 := Sl.off K1 hO (f1 T)
   replace D := D.p hO U
   clear hO
   refine LN ?_
   go_wp2
   go_roundw
   case rel => exact ⟨n + 1, by omega, by go_num, D, J, (by rw [← Q6v]; exact G), K1⟩
   case measure => simp [intOf]; omega
  obtain rfl : n = 128 := by omega
  rw [Z0m] at G
  go_upto_region 3 with fail
  refine wp_region_lit ?_
  refine Lw ?_ (v := .bool false)
  refine J9 ?_
  go_wp2_with fail
  go_loopw [5] (fun ii wr => ∃ (i : Nat), (16 ≤ i ∧ i ≤ 80) ∧ (ii = .int .i64 (i : Int)) ∧ Off [] w wr ∧ Blk wr X5 (J0 .u64 80 (fun _ => 0)) 187 ∧ Blk wr M (J0 .u64 80 (Z5 (bt l) i)) 187 ∧ Sl wr (.slice (some adr) l.length c) l)
   (fun ii _ => 80 - (intOf ii).toNat)
  case atStart => exact ⟨16, ⟨Nat.le_refl _, by decide⟩, rfl, D, J, G, K1⟩
  case round =>
   obtain ⟨i, ⟨hi, α⟩, rfl, D, J, G, K1⟩ := hrel
   obtain ⟨W4, R⟩ := J54 D
   subst R
   by_cases V : i < 80
   ·
    go_upto_region 8 with fail
    refine wp_region_lit ?_
    refine Lv ?_
    refine Lw ?_ (v := .bool true)
    refine J9 ?_
    go_upto_region 10 with fail
    refine J14 10 [] (by kernel_rfl) (fun x hx => by cases hx) (by kernel_rfl) ?_
    simp only [List.take_succ_cons, List.take_zero, List.take_nil]
    (try simp only [Act.put, mA, mB, mC])
    refine Xv ?_
    refine Xw ?_ (v := .int .i64 (((i - 15 : Nat) : Int))) (hv := fun _ _ => by go_simp; (try simp only [IntKind.wrap_u64, IntKind.wrap_i64]); (try omega))
    refine Xw ?_ (v := .pointer (some ⟨M, 0 + (i - 15), none⟩)) (hv := fun _ _ => J5 (m := 80) (by decide) (by omega) Tryz.underlying187 (by kernel_rfl) rfl rfl rfl)
    refine Xc ?_ (v := .int .u64 ((Z5 (bt l) i) (i - 15))) (K4 G) (hj := by rw [Nat.zero_add]; exact J3 _ _ _ _ (by omega))
    refine Xv ?_
    refine Xw ?_ (v := .int .i64 (((i - 2 : Nat) : Int))) (hv := fun _ _ => by go_simp; (try simp only [IntKind.wrap_u64, IntKind.wrap_i64]); (try omega))
    refine Xw ?_ (v := .pointer (some ⟨M, 0 + (i - 2), none⟩)) (hv := fun _ _ => J5 (m := 80) (by decide) (by omega) Tryz.underlying187 (by kernel_rfl) rfl rfl rfl)
    refine Xc ?_ (v := .int .u64 ((Z5 (bt l) i) (i - 2))) (K4 G) (hj := by rw [Nat.zero_add]; exact J3 _ _ _ _ (by omega))
    refine Xv ?_
    refine Xv ?_
    refine V7 ?_
    intro β W5 hE hN hD
    clear hN hD
    simp only [J05, Act.put, mA, mB, mC, List.drop_succ_cons, List.drop_zero, List.drop_nil, List.length_nil, Nat.add_zero]
    have hO := J0d hE
    replace J := J.o hO
    replace G := G.o hO
    replace K1 := Sl.off K1 hO f0
    replace D := D.o hO
    clear hO hE β
    refine LN ?_
    go_upto_region 11 with fail
    refine J14 29 [] (by kernel_rfl) (fun x hx => by cases hx) (by kernel_rfl) ?_
    simp only [List.take_succ_cons, List.take_zero, List.take_nil]
    (try simp only [Act.put, mA, mB, mC])
    refine Xv ?_
    refine Xv ?_
    refine Xw ?_ (v := .int .i64 (((i - 16 : Nat) : Int))) (hv := fun _ _ => by go_simp; (try simp only [IntKind.wrap_u64, IntKind.wrap_i64]); (try omega))
    refine Xw ?_ (v := .pointer (some ⟨M, 0 + (i - 16), none⟩)) (hv := fun _ _ => J5 (m := 80) (by decide) (by omega) Tryz.underlying187 (by kernel_rfl) rfl rfl rfl)
    refine Xc ?_ (v := .int .u64 ((Z5 (bt l) i) (i - 16))) (K4 G) (hj := by rw [Nat.zero_add]; exact J3 _ _ _ _ (by omega))
    refine Xv ?_
    refine Xf ?_ (fun W hW => J5i ((Z5 (bt l) i) (i - 15)) 1 (by decide) (by decide) W)
    refine Xv ?_
    refine Xf ?_ (fun W hW => J5i ((Z5 (bt l) i) (i - 15)) 8 (by decide) (by decide) W)
    refine Xw ?_ (v := .int .u64 (xo (rt ((Z5 (bt l) i) (i - 15)) 1) (rt ((Z5 (bt l) i) (i - 15)) 8))) (hv := fun _ _ => J0n rfl rfl rfl)
    refine Xv ?_
    refine Xw ?_ (v := .int .u64 (sr ((Z5 (bt l) i) (i - 15)) 7)) (hv := fun _ _ => J09 (n := 7) (by decide) rfl rfl rfl)
    refine Xw ?_ (v := .int .u64 (xo (xo (rt ((Z5 (bt l) i) (i - 15)) 1) (rt ((Z5 (bt l) i) (i - 15)) 8)) (sr ((Z5 (bt l) i) (i - 15)) 7))) (hv := fun _ _ => J0n rfl rfl rfl)
    refine Xw ?_ (v := .int .u64 (ad ((Z5 (bt l) i) (i - 16)) (xo (xo (rt ((Z5 (bt l) i) (i - 15)) 1) (rt ((Z5 (bt l) i) (i - 15)) 8)) (sr ((Z5 (bt l) i) (i - 15)) 7)))) (hv := fun _ _ => J1f rfl rfl rfl)
    refine Xv ?_
    refine Xw ?_ (v := .int .i64 (((i - 7 : Nat) : Int))) (hv := fun _ _ => by go_simp; (try simp only [IntKind.wrap_u64, IntKind.wrap_i64]); (try omega))
    refine Xw ?_ (v := .pointer (some ⟨M, 0 + (i - 7), none⟩)) (hv := fun _ _ => J5 (m := 80) (by decide) (by omega) Tryz.underlying187 (by kernel_rfl) rfl rfl rfl)
    refine Xc ?_ (v := .int .u64 ((Z5 (bt l) i) (i - 7))) (K4 G) (hj := by rw [Nat.zero_add]; exact J3 _ _ _ _ (by omega))
    refine Xw ?_ (v := .int .u64 (ad (ad ((Z5 (bt l) i) (i - 16)) (xo (xo (rt ((Z5 (bt l) i) (i - 15)) 1) (rt ((Z5 (bt l) i) (i - 15)) 8)) (sr ((Z5 (bt l) i) (i - 15)) 7))) ((Z5 (bt l) i) (i - 7)))) (hv := fun _ _ => J1f rfl rfl rfl)
    refine Xv ?_
    refine Xf ?_ (fun W hW => J5i ((Z5 (bt l) i) (i - 2)) 19 (by decide) (by decide) W)
    refine Xv ?_
    refine Xf ?_ (fun W hW => J5i ((Z5 (bt l) i) (i - 2)) 61 (by decide) (by decide) W)
    refine Xw ?_ (v := .int .u64 (xo (rt ((Z5 (bt l) i) (i - 2)) 19) (rt ((Z5 (bt l) i) (i - 2)) 61))) (hv := fun _ _ => J0n rfl rfl rfl)
    refine Xv ?_
    refine Xw ?_ (v := .int .u64 (sr ((Z5 (bt l) i) (i - 2)) 6)) (hv := fun _ _ => J09 (n := 6) (by decide) rfl rfl rfl)
    refine Xw ?_ (v := .int .u64 (xo (xo (rt ((Z5 (bt l) i) (i - 2)) 19) (rt ((Z5 (bt l) i) (i - 2)) 61)) (sr ((Z5 (bt l) i) (i - 2)) 6))) (hv := fun _ _ => J0n rfl rfl rfl)
    refine Xw ?_ (v := .int .u64 (ad (ad (ad ((Z5 (bt l) i) (i - 16)) (xo (xo (rt ((Z5 (bt l) i) (i - 15)) 1) (rt ((Z5 (bt l) i) (i - 15)) 8)) (sr ((Z5 (bt l) i) (i - 15)) 7))) ((Z5 (bt l) i) (i - 7))) (xo (xo (rt ((Z5 (bt l) i) (i - 2)) 19) (rt ((Z5 (bt l) i) (i - 2)) 61)) (sr ((Z5 (bt l) i) (i - 2)) 6)))) (hv := fun _ _ => J1f rfl rfl rfl)
    refine Xw ?_ (v := .pointer (some ⟨M, 0 + i, none⟩)) (hv := fun _ _ => J5 (m := 80) (by decide) (by omega) Tryz.underlying187 (by kernel_rfl) rfl rfl rfl)
    refine V7 ?_
    intro β W6 hE hN hD
    clear hN hD
    simp only [J05, Act.put, mA, mB, mC, List.drop_succ_cons, List.drop_zero, List.drop_nil, List.length_nil, Nat.add_zero]
    have hO := J0d hE
    replace J := J.o hO
    replace G := G.o hO
    replace K1 := Sl.off K1 hO f0
    replace D := D.o hO
    clear hO hE β
    refine J42 (v := .int .u64 (ad (ad (ad ((Z5 (bt l) i) (i - 16)) (xo (xo (rt ((Z5 (bt l) i) (i - 15)) 1) (rt ((Z5 (bt l) i) (i - 15)) 8)) (sr ((Z5 (bt l) i) (i - 15)) 7))) ((Z5 (bt l) i) (i - 7))) (xo (xo (rt ((Z5 (bt l) i) (i - 2)) 19) (rt ((Z5 (bt l) i) (i - 2)) 61)) (sr ((Z5 (bt l) i) (i - 2)) 6)))) ⟨rfl, rfl⟩ (by rfl) rfl rfl rfl G (by rw [J1, Nat.zero_add]; omega) (by kernel_rfl) ?_
    (try simp only [Act.put, mA, mB, mC])
    intro W7 hO h_
    rw [Nat.zero_add, V4] at h_
    replace G : Blk W7 M (J0 .u64 80 (upd (Z5 (bt l) i) i (ad (ad (ad ((Z5 (bt l) i) (i - 16)) (xo (xo (rt ((Z5 (bt l) i) (i - 15)) 1) (rt ((Z5 (bt l) i) (i - 15)) 8)) (sr ((Z5 (bt l) i) (i - 15)) 7))) ((Z5 (bt l) i) (i - 7))) (xo (xo (rt ((Z5 (bt l) i) (i - 2)) 19) (rt ((Z5 (bt l) i) (i - 2)) 61)) (sr ((Z5 (bt l) i) (i - 2)) 6))))) 187 := h_
    clear h_
    replace J := J.p hO Y
    replace K1 := Sl.off K1 hO (f1 T)
    replace D := D.p hO U
    clear hO
    refine LN ?_
    go_wp2
    go_roundw
    case rel => exact ⟨i + 1, ⟨by omega, by omega⟩, by go_num, D, J, (by rw [← Z5h hi]; exact G), K1⟩
    case measure => simp [intOf]; omega
   obtain rfl : i = 80 := by omega
   go_upto_region 8 with fail
   refine wp_region_lit ?_
   refine Lv ?_
   refine Lw ?_ (v := .bool false)
   refine J9 ?_
   go_upto_region 12 with fail
   refine wp_region_lit ?_
   refine L0A ?_ G
   refine Lp ?_ J (cells := J0 .u64 80 (Z5 (bt l) 80)) (hi := by rw [J1]; kernel_rfl) (hs := by rw [J1, J1]) (h1 := by exact Z9 _ _ _)
   intro W5 hO h_
   replace J : Blk W5 X5 (J0 .u64 80 (Z5 (bt l) 80)) 187 := h_
   clear h_
   replace D := D.p hO Z
   clear hO
   refine J9 ?_
   go_wp2
   refine bodyPost_ret (Z6 rfl rfl J (by kernel_rfl) (by rw [J1]; kernel_rfl)) rfl ⟨rfl, D.ext⟩
end

section
set_option maxHeartbeats 4000000
attribute [local irreducible] wpList

def kk : List Int := [4794697086780616226, 8158064640168781261, 13096744586834688815, 16840607885511220156, 4131703408338449720, 6480981068601479193, 10538285296894168987, 12329834152419229976, 15566598209576043074, 1334009975649890238, 2608012711638119052, 6128411473006802146, 8268148722764581231, 9286055187155687089, 11230858885718282805, 13951009754708518548, 16472876342353939154, 17275323862435702243, 1135362057144423861, 2597628984639134821, 3308224258029322869, 5365058923640841347, 6679025012923562964, 8573033837759648693, 10970295158949994411, 12119686244451234320, 12683024718118986047, 13788192230050041572, 14330467153632333762, 15395433587784984357, 489312712824947311, 1452737877330783856, 2861767655752347644, 3322285676063803686, 5560940570517711597, 5996557281743188959, 7280758554555802590, 8532644243296465576, 9350256976987008742, 10552545826968843579, 11727347734174303076, 12113106623233404929, 14000437183269869457, 14369950271660146224, 15101387698204529176, 15463397548674623760, 17586052441742319658, 1182934255886127544, 1847814050463011016, 2177327727835720531, 2830643537854262169, 3796741975233480872, 4115178125766777443, 5681478168544905931, 6601373596472566643, 7507060721942968483, 8399075790359081724, 8693463985226723168, 9568029438360202098, 10144078919501101548, 10430055236837252648, 11840083180663258601, 13761210420658862357, 14299343276471374635, 14566680578165727644, 15097957966210449927, 16922976911328602910, 17689382322260857208, 500013540394364858, 748580250866718886, 1242879168328830382, 1977374033974150939, 2944078676154940804, 3659926193048069267, 4368137639120453308, 4836135668995329356, 5532061633213252278, 6448918945643986474, 6902733635092675308, 7801388544844847127]
def hh : List Int := [7640891576956012808, 13503953896175478587, 4354685564936845355, 11912009170470909681, 5840696475078001361, 11170449401992604703, 2270897969802886507, 6620516959819538809]
def kf (i : Nat) : Int := kk.getD i 0
def hf (i : Nat) : Int := hh.getD i 0
def GS (w : World) : Prop := Rd w 14 (J0 .u64 80 kf) ∧ Rd w 10 (J0 .u64 8 hf)
theorem Q4q {w W : World} (h : GS w) (e : Ext w W) : GS W := ⟨h.1.ext e, h.2.ext e⟩
def rT (k w : Nat → Int) (i : Nat) (v : Nat → Int) : Int := ad (ad (ad (ad (v 7) (xo (xo (rt (v 4) 14) (rt (v 4) 18)) (rt (v 4) 41))) (xo (an (v 4) (v 5)) (an (nt (v 4)) (v 6)))) (k i)) (w i)
def rU (v : Nat → Int) : Int := ad (xo (xo (rt (v 0) 28) (rt (v 0) 34)) (rt (v 0) 39)) (xo (xo (an (v 0) (v 1)) (an (v 0) (v 2))) (an (v 1) (v 2)))
def rnd (k w : Nat → Int) (i : Nat) (v : Nat → Int) : Nat → Int
  | 0 => ad (rT k w i v) (rU v)
  | 1 => v 0
  | 2 => v 1
  | 3 => v 2
  | 4 => ad (v 3) (rT k w i v)
  | 5 => v 4
  | 6 => v 5
  | 7 => v 6
  | _ => 0
def Q9 (k w v : Nat → Int) : Nat → Nat → Int
  | 0 => v
  | i + 1 => rnd k w i (Q9 k w v i)
def prs (h b : Nat → Int) (j : Nat) : Int := ad (h j) (Q9 kf (Z5 b 80) h 80 j)
def mx (h v : Nat → Int) (i j : Nat) : Int := if j < i then ad (h j) (v j) else h j
theorem Z0n (h v : Nat → Int) (i : Nat) : upd (mx h v i) i (ad (mx h v i i) (v i)) = mx h v (i + 1) := by
  funext j
  unfold upd mx
  by_cases hj : j = i
  · subst hj; rw [if_pos rfl, if_neg (by omega), if_pos (by omega)]
  rw [if_neg hj]
  by_cases hl : j < i
  · rw [if_pos hl, if_pos (by omega)]
  rw [if_neg hl, if_neg (by omega)]
theorem Z0o (h v : Nat → Int) : mx h v 0 = h := by funext j; unfold mx; rw [if_neg (by omega)]
theorem Z5k (h b : Nat → Int) : J0 .u64 8 (mx h (Q9 kf (Z5 b 80) h 80) 8) = J0 .u64 8 (prs h b) := K5 _ _ _ _ fun j hj => by unfold mx prs; rw [if_pos hj]

theorem Y04 (h : Nat → Int) (l : List UInt8) (adr : Addr) (c : Nat) (hl : 128 ≤ l.length) (w : World) (hs : Sl w (.slice (some adr) l.length c) l) (hG : GS w) :
  Calls Tryz.prog 158 #[.agg (J0 .u64 8 h), .slice (some adr) l.length c] w fun e w' => K7 (.agg (J0 .u64 8 (prs h (bt l)))) w w' e := by
 have HG := Lib.hid hG
 clear hG
 have G : Off [] w w := Off.refl _ _
 have K1 := hs
 go_enter Tryz.func158, Tryz.ntmps158
 go_upto_region 0 with fail
 refine wp_region_lit ?_
 refine Ln ?_ (z := J0 .u64 8 h) (t := 186)
 intro X5 W1 γ hO h_
 have ρ := J72 (Sl.lt K1) γ
 have μ := fbn G γ
 replace K1 := Sl.off K1 hO f0
 replace G := G.o hO
 have J := h_
 clear hO h_ γ
 refine Ln ?_ (z := J0 .u64 8 (fun _ => 0)) (t := 186)
 intro Y W2 δ hO h_
 have V := bn J δ
 have ν := fbn G δ
 replace J := J.o hO
 replace K1 := Sl.off K1 hO f0
 replace G := G.o hO
 have M := h_
 clear hO h_ δ
 refine J9 ?_
 go_upto_region 1 with fail
 refine wp_region_lit ?_
 refine Lv ?_
 refine Lr ?_ (Z5j l adr c hl W2 K1)
 intro W3 hO
 replace J := J.o hO
 replace M := M.o hO
 replace K1 := Sl.off K1 hO f0
 replace G := G.o hO
 clear hO
 refine LnP ?_ (z := J0 .u64 80 (fun _ => 0)) (t := 187) (cells := J0 .u64 80 (Z5 (bt l) 80)) (hi := by rw [J1]; kernel_rfl) (hs := by rw [J1, J1]) (h1 := by exact Z9 _ _ _)
 intro ε W5 ζ hO h_
 have U := bn J ζ
 replace J := J.o hO
 replace M := M.o hO
 replace K1 := Sl.off K1 hO f0
 replace G := G.o hO
 have R := h_
 clear hO h_ ζ
 refine J9 ?_
 go_upto_region 2 with fail
 refine wp_region_lit ?_
 refine L0A ?_ J
 refine LnP ?_ (z := J0 .u64 8 (fun _ => 0)) (t := 186) (cells := J0 .u64 8 h) (hi := by rw [J1]; kernel_rfl) (hs := by rw [J1, J1]) (h1 := by exact Z9 _ _ _)
 intro N W7 T hO h_
 have S := bn J T
 have θ := bn M T
 have ξ := bn R T
 have σ := J72 (Sl.lt K1) T
 have κ := fbn G T
 replace J := J.o hO
 replace M := M.o hO
 replace R := R.o hO
 replace K1 := Sl.off K1 hO f0
 replace G := G.o hO
 have D := h_
 clear hO h_ T
 refine J9 ?_
 go_wp2_with fail
 go_loopw [14] (fun ii wr => ∃ (i : Nat), (i ≤ 80) ∧ (ii = .int .i64 (i : Int)) ∧ Off [] w wr ∧ Blk wr X5 (J0 .u64 8 h) 186 ∧ Blk wr Y (J0 .u64 8 (fun _ => 0)) 186 ∧ Blk wr ε (J0 .u64 80 (Z5 (bt l) 80)) 187 ∧ Blk wr N (J0 .u64 8 (Q9 kf (Z5 (bt l) 80) h i)) 186 ∧ Sl wr (.slice (some adr) l.length c) l)
  (fun ii _ => 80 - (intOf ii).toNat)
 case atStart => exact ⟨0, Nat.zero_le _, rfl, G, J, M, R, D, K1⟩
 case round =>
  obtain ⟨i, hi, rfl, G, J, M, R, D, K1⟩ := hrel
  obtain ⟨W8, X⟩ := J54 G
  subst X
  by_cases η : i < 80
  ·
   go_upto_region 4 with fail
   refine wp_region_lit ?_
   refine Lw ?_ (v := .bool true)
   refine J9 ?_
   go_upto_region 6 with fail
   refine J14 36 [] (by kernel_rfl) (fun x hx => by cases hx) (by kernel_rfl) ?_
   simp only [List.take_succ_cons, List.take_zero, List.take_nil]
   (try simp only [Act.put, mA, mB, mC])
   refine Xw ?_ (v := .pointer (some ⟨N, 0 + 7, none⟩)) (hv := fun _ _ => J5 (m := 8) (by decide) (by omega) Tryz.underlying186 (by kernel_rfl) rfl rfl rfl)
   refine Xc ?_ (v := .int .u64 ((Q9 kf (Z5 (bt l) 80) h i) 7)) (K4 D) (hj := by rw [Nat.zero_add]; exact J3 _ _ _ _ (by omega))
   refine Xw ?_ (v := .pointer (some ⟨N, 0 + 4, none⟩)) (hv := fun _ _ => J5 (m := 8) (by decide) (by omega) Tryz.underlying186 (by kernel_rfl) rfl rfl rfl)
   refine Xc ?_ (v := .int .u64 ((Q9 kf (Z5 (bt l) 80) h i) 4)) (K4 D) (hj := by rw [Nat.zero_add]; exact J3 _ _ _ _ (by omega))
   refine Xf ?_ (fun W hW => J5i ((Q9 kf (Z5 (bt l) 80) h i) 4) 14 (by decide) (by decide) W)
   refine Xw ?_ (v := .pointer (some ⟨N, 0 + 4, none⟩)) (hv := fun _ _ => J5 (m := 8) (by decide) (by omega) Tryz.underlying186 (by kernel_rfl) rfl rfl rfl)
   refine Xc ?_ (v := .int .u64 ((Q9 kf (Z5 (bt l) 80) h i) 4)) (K4 D) (hj := by rw [Nat.zero_add]; exact J3 _ _ _ _ (by omega))
   refine Xf ?_ (fun W hW => J5i ((Q9 kf (Z5 (bt l) 80) h i) 4) 18 (by decide) (by decide) W)
   refine Xw ?_ (v := .int .u64 (xo (rt ((Q9 kf (Z5 (bt l) 80) h i) 4) 14) (rt ((Q9 kf (Z5 (bt l) 80) h i) 4) 18))) (hv := fun _ _ => J0n rfl rfl rfl)
   refine Xw ?_ (v := .pointer (some ⟨N, 0 + 4, none⟩)) (hv := fun _ _ => J5 (m := 8) (by decide) (by omega) Tryz.underlying186 (by kernel_rfl) rfl rfl rfl)
   refine Xc ?_ (v := .int .u64 ((Q9 kf (Z5 (bt l) 80) h i) 4)) (K4 D) (hj := by rw [Nat.zero_add]; exact J3 _ _ _ _ (by omega))
   refine Xf ?_ (fun W hW => J5i ((Q9 kf (Z5 (bt l) 80) h i) 4) 41 (by decide) (by decide) W)
   refine Xw ?_ (v := .int .u64 (xo (xo (rt ((Q9 kf (Z5 (bt l) 80) h i) 4) 14) (rt ((Q9 kf (Z5 (bt l) 80) h i) 4) 18)) (rt ((Q9 kf (Z5 (bt l) 80) h i) 4) 41))) (hv := fun _ _ => J0n rfl rfl rfl)
   refine Xw ?_ (v := .int .u64 (ad ((Q9 kf (Z5 (bt l) 80) h i) 7) (xo (xo (rt ((Q9 kf (Z5 (bt l) 80) h i) 4) 14) (rt ((Q9 kf (Z5 (bt l) 80) h i) 4) 18)) (rt ((Q9 kf (Z5 (bt l) 80) h i) 4) 41)))) (hv := fun _ _ => J1f rfl rfl rfl)
   refine Xw ?_ (v := .pointer (some ⟨N, 0 + 4, none⟩)) (hv := fun _ _ => J5 (m := 8) (by decide) (by omega) Tryz.underlying186 (by kernel_rfl) rfl rfl rfl)
   refine Xc ?_ (v := .int .u64 ((Q9 kf (Z5 (bt l) 80) h i) 4)) (K4 D) (hj := by rw [Nat.zero_add]; exact J3 _ _ _ _ (by omega))
   refine Xw ?_ (v := .pointer (some ⟨N, 0 + 5, none⟩)) (hv := fun _ _ => J5 (m := 8) (by decide) (by omega) Tryz.underlying186 (by kernel_rfl) rfl rfl rfl)
   refine Xc ?_ (v := .int .u64 ((Q9 kf (Z5 (bt l) 80) h i) 5)) (K4 D) (hj := by rw [Nat.zero_add]; exact J3 _ _ _ _ (by omega))
   refine Xw ?_ (v := .int .u64 (an ((Q9 kf (Z5 (bt l) 80) h i) 4) ((Q9 kf (Z5 (bt l) 80) h i) 5))) (hv := fun _ _ => J3w rfl rfl rfl)
   refine Xw ?_ (v := .pointer (some ⟨N, 0 + 4, none⟩)) (hv := fun _ _ => J5 (m := 8) (by decide) (by omega) Tryz.underlying186 (by kernel_rfl) rfl rfl rfl)
   refine Xc ?_ (v := .int .u64 ((Q9 kf (Z5 (bt l) 80) h i) 4)) (K4 D) (hj := by rw [Nat.zero_add]; exact J3 _ _ _ _ (by omega))
   refine Xw ?_ (v := .int .u64 (nt ((Q9 kf (Z5 (bt l) 80) h i) 4))) (hv := fun _ _ => Z0l rfl rfl)
   refine Xw ?_ (v := .pointer (some ⟨N, 0 + 6, none⟩)) (hv := fun _ _ => J5 (m := 8) (by decide) (by omega) Tryz.underlying186 (by kernel_rfl) rfl rfl rfl)
   refine Xc ?_ (v := .int .u64 ((Q9 kf (Z5 (bt l) 80) h i) 6)) (K4 D) (hj := by rw [Nat.zero_add]; exact J3 _ _ _ _ (by omega))
   refine Xw ?_ (v := .int .u64 (an (nt ((Q9 kf (Z5 (bt l) 80) h i) 4)) ((Q9 kf (Z5 (bt l) 80) h i) 6))) (hv := fun _ _ => J3w rfl rfl rfl)
   refine Xw ?_ (v := .int .u64 (xo (an ((Q9 kf (Z5 (bt l) 80) h i) 4) ((Q9 kf (Z5 (bt l) 80) h i) 5)) (an (nt ((Q9 kf (Z5 (bt l) 80) h i) 4)) ((Q9 kf (Z5 (bt l) 80) h i) 6)))) (hv := fun _ _ => J0n rfl rfl rfl)
   refine Xw ?_ (v := .int .u64 (ad (ad ((Q9 kf (Z5 (bt l) 80) h i) 7) (xo (xo (rt ((Q9 kf (Z5 (bt l) 80) h i) 4) 14) (rt ((Q9 kf (Z5 (bt l) 80) h i) 4) 18)) (rt ((Q9 kf (Z5 (bt l) 80) h i) 4) 41))) (xo (an ((Q9 kf (Z5 (bt l) 80) h i) 4) ((Q9 kf (Z5 (bt l) 80) h i) 5)) (an (nt ((Q9 kf (Z5 (bt l) 80) h i) 4)) ((Q9 kf (Z5 (bt l) 80) h i) 6))))) (hv := fun _ _ => J1f rfl rfl rfl)
   refine Xv ?_
   refine Xw ?_ (v := .pointer (some ⟨14, 0 + i, none⟩)) (hv := fun _ _ => J5 (m := 80) (by decide) (by omega) Tryz.underlying187 (by kernel_rfl) rfl rfl rfl)
   refine Xc ?_ (v := .int .u64 (kf i)) ((Q4q HG.out G.ext).1) (hj := by rw [Nat.zero_add]; exact J3 _ _ _ _ (by omega))
   refine Xw ?_ (v := .int .u64 (ad (ad (ad ((Q9 kf (Z5 (bt l) 80) h i) 7) (xo (xo (rt ((Q9 kf (Z5 (bt l) 80) h i) 4) 14) (rt ((Q9 kf (Z5 (bt l) 80) h i) 4) 18)) (rt ((Q9 kf (Z5 (bt l) 80) h i) 4) 41))) (xo (an ((Q9 kf (Z5 (bt l) 80) h i) 4) ((Q9 kf (Z5 (bt l) 80) h i) 5)) (an (nt ((Q9 kf (Z5 (bt l) 80) h i) 4)) ((Q9 kf (Z5 (bt l) 80) h i) 6)))) (kf i))) (hv := fun _ _ => J1f rfl rfl rfl)
   refine Xv ?_
   refine Xw ?_ (v := .pointer (some ⟨ε, 0 + i, none⟩)) (hv := fun _ _ => J5 (m := 80) (by decide) (by omega) Tryz.underlying187 (by kernel_rfl) rfl rfl rfl)
   refine Xc ?_ (v := .int .u64 ((Z5 (bt l) 80) i)) (K4 R) (hj := by rw [Nat.zero_add]; exact J3 _ _ _ _ (by omega))
   refine Xw ?_ (v := .int .u64 (rT kf (Z5 (bt l) 80) i (Q9 kf (Z5 (bt l) 80) h i)))
   refine Xv ?_
   refine V7 ?_
   intro β W9 hE hN hD
   clear hN hD
   simp only [J05, Act.put, mA, mB, mC, List.drop_succ_cons, List.drop_zero, List.drop_nil, List.length_nil, Nat.add_zero]
   have hO := J0d hE
   replace J := J.o hO
   replace M := M.o hO
   replace R := R.o hO
   replace D := D.o hO
   replace K1 := Sl.off K1 hO f0
   replace G := G.o hO
   clear hO hE β
   refine LN ?_
   go_upto_region 7 with fail
   refine J14 30 [] (by kernel_rfl) (fun x hx => by cases hx) (by kernel_rfl) ?_
   simp only [List.take_succ_cons, List.take_zero, List.take_nil]
   (try simp only [Act.put, mA, mB, mC])
   refine Xw ?_ (v := .pointer (some ⟨N, 0 + 0, none⟩)) (hv := fun _ _ => J5 (m := 8) (by decide) (by omega) Tryz.underlying186 (by kernel_rfl) rfl rfl rfl)
   refine Xc ?_ (v := .int .u64 ((Q9 kf (Z5 (bt l) 80) h i) 0)) (K4 D) (hj := by rw [Nat.zero_add]; exact J3 _ _ _ _ (by omega))
   refine Xf ?_ (fun W hW => J5i ((Q9 kf (Z5 (bt l) 80) h i) 0) 28 (by decide) (by decide) W)
   refine Xw ?_ (v := .pointer (some ⟨N, 0 + 0, none⟩)) (hv := fun _ _ => J5 (m := 8) (by decide) (by omega) Tryz.underlying186 (by kernel_rfl) rfl rfl rfl)
   refine Xc ?_ (v := .int .u64 ((Q9 kf (Z5 (bt l) 80) h i) 0)) (K4 D) (hj := by rw [Nat.zero_add]; exact J3 _ _ _ _ (by omega))
   refine Xf ?_ (fun W hW => J5i ((Q9 kf (Z5 (bt l) 80) h i) 0) 34 (by decide) (by decide) W)
   refine Xw ?_ (v := .int .u64 (xo (rt ((Q9 kf (Z5 (bt l) 80) h i) 0) 28) (rt ((Q9 kf (Z5 (bt l) 80) h i) 0) 34))) (hv := fun _ _ => J0n rfl rfl rfl)
   refine Xw ?_ (v := .pointer (some ⟨N, 0 + 0, none⟩)) (hv := fun _ _ => J5 (m := 8) (by decide) (by omega) Tryz.underlying186 (by kernel_rfl) rfl rfl rfl)
   refine Xc ?_ (v := .int .u64 ((Q9 kf (Z5 (bt l) 80) h i) 0)) (K4 D) (hj := by rw [Nat.zero_add]; exact J3 _ _ _ _ (by omega))
   refine Xf ?_ (fun W hW => J5i ((Q9 kf (Z5 (bt l) 80) h i) 0) 39 (by decide) (by decide) W)
   refine Xw ?_ (v := .int .u64 (xo (xo (rt ((Q9 kf (Z5 (bt l) 80) h i) 0) 28) (rt ((Q9 kf (Z5 (bt l) 80) h i) 0) 34)) (rt ((Q9 kf (Z5 (bt l) 80) h i) 0) 39))) (hv := fun _ _ => J0n rfl rfl rfl)
   refine Xw ?_ (v := .pointer (some ⟨N, 0 + 0, none⟩)) (hv := fun _ _ => J5 (m := 8) (by decide) (by omega) Tryz.underlying186 (by kernel_rfl) rfl rfl rfl)
   refine Xc ?_ (v := .int .u64 ((Q9 kf (Z5 (bt l) 80) h i) 0)) (K4 D) (hj := by rw [Nat.zero_add]; exact J3 _ _ _ _ (by omega))
   refine Xw ?_ (v := .pointer (some ⟨N, 0 + 1, none⟩)) (hv := fun _ _ => J5 (m := 8) (by decide) (by omega) Tryz.underlying186 (by kernel_rfl) rfl rfl rfl)
   refine Xc ?_ (v := .int .u64 ((Q9 kf (Z5 (bt l) 80) h i) 1)) (K4 D) (hj := by rw [Nat.zero_add]; exact J3 _ _ _ _ (by omega))
   refine Xw ?_ (v := .int .u64 (an ((Q9 kf (Z5 (bt l) 80) h i) 0) ((Q9 kf (Z5 (bt l) 80) h i) 1))) (hv := fun _ _ => J3w rfl rfl rfl)
   refine Xw ?_ (v := .pointer (some ⟨N, 0 + 0, none⟩)) (hv := fun _ _ => J5 (m := 8) (by decide) (by omega) Tryz.underlying186 (by kernel_rfl) rfl rfl rfl)
   refine Xc ?_ (v := .int .u64 ((Q9 kf (Z5 (bt l) 80) h i) 0)) (K4 D) (hj := by rw [Nat.zero_add]; exact J3 _ _ _ _ (by omega))
   refine Xw ?_ (v := .pointer (some ⟨N, 0 + 2, none⟩)) (hv := fun _ _ => J5 (m := 8) (by decide) (by omega) Tryz.underlying186 (by kernel_rfl) rfl rfl rfl)
   refine Xc ?_ (v := .int .u64 ((Q9 kf (Z5 (bt l) 80) h i) 2)) (K4 D) (hj := by rw [Nat.zero_add]; exact J3 _ _ _ _ (by omega))
   refine Xw ?_ (v := .int .u64 (an ((Q9 kf (Z5 (bt l) 80) h i) 0) ((Q9 kf (Z5 (bt l) 80) h i) 2))) (hv := fun _ _ => J3w rfl rfl rfl)
   refine Xw ?_ (v := .int .u64 (xo (an ((Q9 kf (Z5 (bt l) 80) h i) 0) ((Q9 kf (Z5 (bt l) 80) h i) 1)) (an ((Q9 kf (Z5 (bt l) 80) h i) 0) ((Q9 kf (Z5 (bt l) 80) h i) 2)))) (hv := fun _ _ => J0n rfl rfl rfl)
   refine Xw ?_ (v := .pointer (some ⟨N, 0 + 1, none⟩)) (hv := fun _ _ => J5 (m := 8) (by decide) (by omega) Tryz.underlying186 (by kernel_rfl) rfl rfl rfl)
   refine Xc ?_ (v := .int .u64 ((Q9 kf (Z5 (bt l) 80) h i) 1)) (K4 D) (hj := by rw [Nat.zero_add]; exact J3 _ _ _ _ (by omega))
   refine Xw ?_ (v := .pointer (some ⟨N, 0 + 2, none⟩)) (hv := fun _ _ => J5 (m := 8) (by decide) (by omega) Tryz.underlying186 (by kernel_rfl) rfl rfl rfl)
   refine Xc ?_ (v := .int .u64 ((Q9 kf (Z5 (bt l) 80) h i) 2)) (K4 D) (hj := by rw [Nat.zero_add]; exact J3 _ _ _ _ (by omega))
   refine Xw ?_ (v := .int .u64 (an ((Q9 kf (Z5 (bt l) 80) h i) 1) ((Q9 kf (Z5 (bt l) 80) h i) 2))) (hv := fun _ _ => J3w rfl rfl rfl)
   refine Xw ?_ (v := .int .u64 (xo (xo (an ((Q9 kf (Z5 (bt l) 80) h i) 0) ((Q9 kf (Z5 (bt l) 80) h i) 1)) (an ((Q9 kf (Z5 (bt l) 80) h i) 0) ((Q9 kf (Z5 (bt l) 80) h i) 2))) (an ((Q9 kf (Z5 (bt l) 80) h i) 1) ((Q9 kf (Z5 (bt l) 80) h i) 2)))) (hv := fun _ _ => J0n rfl rfl rfl)
   refine Xw ?_ (v := .int .u64 (rU (Q9 kf (Z5 (bt l) 80) h i)))
   refine Xv ?_
   refine V7 ?_
   intro β α hE hN hD
   clear hN hD
   simp only [J05, Act.put, mA, mB, mC, List.drop_succ_cons, List.drop_zero, List.drop_nil, List.length_nil, Nat.add_zero]
   have hO := J0d hE
   replace J := J.o hO
   replace M := M.o hO
   replace R := R.o hO
   replace D := D.o hO
   replace K1 := Sl.off K1 hO f0
   replace G := G.o hO
   clear hO hE β
   refine LN ?_
   go_upto_region 8 with fail
   refine wp_region_lit ?_
   refine Lv ?_
   refine Lv ?_
   refine Lw ?_ (v := .int .u64 (ad (rT kf (Z5 (bt l) 80) i (Q9 kf (Z5 (bt l) 80) h i)) (rU (Q9 kf (Z5 (bt l) 80) h i)))) (hv := J1f rfl rfl rfl)
   refine Lw ?_ (v := .pointer (some ⟨N, 0 + 0, none⟩)) (hv := J5 (m := 8) (by decide) (by omega) Tryz.underlying186 (by kernel_rfl) rfl rfl rfl)
   refine Lg ?_ D (v := .int .u64 ((Q9 kf (Z5 (bt l) 80) h i) 0)) (hj := by rw [Nat.zero_add]; exact J3 _ _ _ _ (by omega))
   refine Lw ?_ (v := .pointer (some ⟨N, 0 + 1, none⟩)) (hv := J5 (m := 8) (by decide) (by omega) Tryz.underlying186 (by kernel_rfl) rfl rfl rfl)
   refine Lg ?_ D (v := .int .u64 ((Q9 kf (Z5 (bt l) 80) h i) 1)) (hj := by rw [Nat.zero_add]; exact J3 _ _ _ _ (by omega))
   refine Lw ?_ (v := .pointer (some ⟨N, 0 + 2, none⟩)) (hv := J5 (m := 8) (by decide) (by omega) Tryz.underlying186 (by kernel_rfl) rfl rfl rfl)
   refine Lg ?_ D (v := .int .u64 ((Q9 kf (Z5 (bt l) 80) h i) 2)) (hj := by rw [Nat.zero_add]; exact J3 _ _ _ _ (by omega))
   refine Lw ?_ (v := .pointer (some ⟨N, 0 + 3, none⟩)) (hv := J5 (m := 8) (by decide) (by omega) Tryz.underlying186 (by kernel_rfl) rfl rfl rfl)
   refine Lg ?_ D (v := .int .u64 ((Q9 kf (Z5 (bt l) 80) h i) 3)) (hj := by rw [Nat.zero_add]; exact J3 _ _ _ _ (by omega))
   refine Lv ?_
   refine Lw ?_ (v := .int .u64 (ad ((Q9 kf (Z5 (bt l) 80) h i) 3) (rT kf (Z5 (bt l) 80) i (Q9 kf (Z5 (bt l) 80) h i)))) (hv := J1f rfl rfl rfl)
   refine Lw ?_ (v := .pointer (some ⟨N, 0 + 4, none⟩)) (hv := J5 (m := 8) (by decide) (by omega) Tryz.underlying186 (by kernel_rfl) rfl rfl rfl)
   refine Lg ?_ D (v := .int .u64 ((Q9 kf (Z5 (bt l) 80) h i) 4)) (hj := by rw [Nat.zero_add]; exact J3 _ _ _ _ (by omega))
   refine Lw ?_ (v := .pointer (some ⟨N, 0 + 5, none⟩)) (hv := J5 (m := 8) (by decide) (by omega) Tryz.underlying186 (by kernel_rfl) rfl rfl rfl)
   refine Lg ?_ D (v := .int .u64 ((Q9 kf (Z5 (bt l) 80) h i) 5)) (hj := by rw [Nat.zero_add]; exact J3 _ _ _ _ (by omega))
   refine Lw ?_ (v := .pointer (some ⟨N, 0 + 6, none⟩)) (hv := J5 (m := 8) (by decide) (by omega) Tryz.underlying186 (by kernel_rfl) rfl rfl rfl)
   refine Lg ?_ D (v := .int .u64 ((Q9 kf (Z5 (bt l) 80) h i) 6)) (hj := by rw [Nat.zero_add]; exact J3 _ _ _ _ (by omega))
   refine Lw ?_ (v := .agg (J0 .u64 8 (Q9 kf (Z5 (bt l) 80) h (i + 1)))) (hv := by first | rfl | (go_simp; rfl))
   refine Lp ?_ D (cells := J0 .u64 8 (Q9 kf (Z5 (bt l) 80) h (i + 1))) (hi := by rw [J1]; kernel_rfl) (hs := by rw [J1, J1]) (h1 := by exact Z9 _ _ _)
   intro Z hO h_
   replace D : Blk Z N (J0 .u64 8 (Q9 kf (Z5 (bt l) 80) h (i + 1))) 186 := h_
   clear h_
   replace J := J.p hO S
   replace M := M.p hO θ
   replace R := R.p hO ξ
   replace K1 := Sl.off K1 hO (f1 σ)
   replace G := G.p hO κ
   clear hO
   refine J9 ?_
   go_wp2
   go_roundw
   case rel => exact ⟨i + 1, by omega, by go_num, G, J, M, R, D, K1⟩
   case measure => simp [intOf]; omega
  obtain rfl : i = 80 := by omega
  go_upto_region 4 with fail
  refine wp_region_lit ?_
  refine Lw ?_ (v := .bool false)
  refine J9 ?_
  go_wp2_with fail
  go_loopw [102] (fun ii wr => ∃ (i : Nat), (i ≤ 8) ∧ (ii = .int .i64 (i : Int)) ∧ Off [] w wr ∧ Blk wr X5 (J0 .u64 8 (mx h (Q9 kf (Z5 (bt l) 80) h 80) i)) 186 ∧ Blk wr Y (J0 .u64 8 (fun _ => 0)) 186 ∧ Blk wr ε (J0 .u64 80 (Z5 (bt l) 80)) 187 ∧ Blk wr N (J0 .u64 8 (Q9 kf (Z5 (bt l) 80) h 80)) 186 ∧ Sl wr (.slice (some adr) l.length c) l)
   (fun ii _ => 8 - (intOf ii).toNat)
  case atStart => exact ⟨0, Nat.zero_le _, rfl, G, (by rw [Z0o]; exact J), M, R, D, K1⟩
  case round =>
   obtain ⟨i, hi, rfl, G, J, M, R, D, K1⟩ := hrel
   obtain ⟨W9, X⟩ := J54 G
   subst X
   by_cases h8 : i < 8
   ·
    go_upto_region 11 with fail
    refine wp_region_lit ?_
    refine Lw ?_ (v := .bool true)
    refine J9 ?_
    go_upto_region 13 with fail
    refine J14 8 [] (by kernel_rfl) (fun x hx => by cases hx) (by kernel_rfl) ?_
    simp only [List.take_succ_cons, List.take_zero, List.take_nil]
    (try simp only [Act.put, mA, mB, mC])
    refine Xv ?_
    refine Xw ?_ (v := .pointer (some ⟨X5, 0 + i, none⟩)) (hv := fun _ _ => J5 (m := 8) (by decide) (by omega) Tryz.underlying186 (by kernel_rfl) rfl rfl rfl)
    refine Xc ?_ (v := .int .u64 ((mx h (Q9 kf (Z5 (bt l) 80) h 80) i) i)) (K4 J) (hj := by rw [Nat.zero_add]; exact J3 _ _ _ _ (by omega))
    refine Xv ?_
    refine Xw ?_ (v := .pointer (some ⟨N, 0 + i, none⟩)) (hv := fun _ _ => J5 (m := 8) (by decide) (by omega) Tryz.underlying186 (by kernel_rfl) rfl rfl rfl)
    refine Xc ?_ (v := .int .u64 ((Q9 kf (Z5 (bt l) 80) h 80) i)) (K4 D) (hj := by rw [Nat.zero_add]; exact J3 _ _ _ _ (by omega))
    refine Xw ?_ (v := .int .u64 (ad ((mx h (Q9 kf (Z5 (bt l) 80) h 80) i) i) ((Q9 kf (Z5 (bt l) 80) h 80) i))) (hv := fun _ _ => J1f rfl rfl rfl)
    refine Xw ?_ (v := .pointer (some ⟨X5, 0 + i, none⟩)) (hv := fun _ _ => J5 (m := 8) (by decide) (by omega) Tryz.underlying186 (by kernel_rfl) rfl rfl rfl)
    refine V7 ?_
    intro β α hE hN hD
    clear hN hD
    simp only [J05, Act.put, mA, mB, mC, List.drop_succ_cons, List.drop_zero, List.drop_nil, List.length_nil, Nat.add_zero]
    have hO := J0d hE
    replace J := J.o hO
    replace M := M.o hO
    replace R := R.o hO
    replace D := D.o hO
    replace K1 := Sl.off K1 hO f0
    replace G := G.o hO
    clear hO hE β
    refine J42 (v := .int .u64 (ad ((mx h (Q9 kf (Z5 (bt l) 80) h 80) i) i) ((Q9 kf (Z5 (bt l) 80) h 80) i))) ⟨rfl, rfl⟩ (by rfl) rfl rfl rfl J (by rw [J1, Nat.zero_add]; omega) (by kernel_rfl) ?_
    (try simp only [Act.put, mA, mB, mC])
    intro Z hO h_
    rw [Nat.zero_add, V4] at h_
    replace J : Blk Z X5 (J0 .u64 8 (upd (mx h (Q9 kf (Z5 (bt l) 80) h 80) i) i (ad ((mx h (Q9 kf (Z5 (bt l) 80) h 80) i) i) ((Q9 kf (Z5 (bt l) 80) h 80) i)))) 186 := h_
    clear h_
    replace M := M.p hO V.symm
    replace R := R.p hO U.symm
    replace D := D.p hO S.symm
    replace K1 := Sl.off K1 hO (f1 ρ)
    replace G := G.p hO μ
    clear hO
    refine LN ?_
    go_wp2
    go_roundw
    case rel => exact ⟨i + 1, by omega, by go_num, G, (by rw [← Z0n]; exact J), M, R, D, K1⟩
    case measure => simp [intOf]; omega
   obtain rfl : i = 8 := by omega
   rw [Z5k] at J
   go_upto_region 11 with fail
   refine wp_region_lit ?_
   refine Lw ?_ (v := .bool false)
   refine J9 ?_
   go_upto_region 15 with fail
   refine wp_region_lit ?_
   refine L0A ?_ J
   refine Lp ?_ M (cells := J0 .u64 8 (prs h (bt l))) (hi := by rw [J1]; kernel_rfl) (hs := by rw [J1, J1]) (h1 := by exact Z9 _ _ _)
   intro α hO h_
   replace M : Blk α Y (J0 .u64 8 (prs h (bt l))) 186 := h_
   clear h_
   replace G := G.p hO ν
   clear hO
   refine J9 ?_
   go_wp2
   refine bodyPost_ret (Z6 rfl rfl M (by kernel_rfl) (by rw [J1]; kernel_rfl)) rfl ⟨rfl, G.ext⟩
end
end Go.Proofs.YtejkmhgkkibafaaGreatDoor
