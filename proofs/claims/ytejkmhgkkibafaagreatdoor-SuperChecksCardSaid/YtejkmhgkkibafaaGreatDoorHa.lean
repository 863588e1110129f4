/- Contracts and plain laws that superChecks_holds rests on. Conditions: the variables' cells hold the numbers of the program's text. -/
import Derived.Test.YtejkmhgkkibafaaGreatDoorGc
import Derived.Laws.BitsLemmas
open Go.RowKit
set_option maxRecDepth 100000
set_option linter.unusedSimpArgs false
set_option linter.unusedVariables false
namespace Go.Proofs.YtejkmhgkkibafaaGreatDoor
section
set_option maxHeartbeats 4000000

def xo (p q : Int) : Int := bits .xor .u64 p q
def an (p q : Int) : Int := bits .and .u64 p q
def oo (p q : Int) : Int := bits .or .u64 p q
def nt (p : Int) : Int := bits .xor .u64 18446744073709551615 p
def ad (p q : Int) : Int := IntKind.wrap .u64 (p + q)
def sl (p : Int) (n : Nat) : Int := IntKind.wrap .u64 (p * 2 ^ n)
def sr (p : Int) (n : Nat) : Int := p / 2 ^ n
def rt (p : Int) (n : Nat) : Int := oo (sr p n) (sl p (64 - n))
theorem Y0j (p q : Int) : oo p q = oo q p := by unfold oo; simp only [bits, BitVec.or_comm]
section
variable {P : Program} {w : World} {o : Oper} {a : Act} {x y : Operand} {t t' : TypeId} {p q : Int}
theorem J0t (ho : o.op = .binOp .xor t x y t') (hx : a.eval x = .int .u64 p) (hy : a.eval y = .int .u64 q) : (execOp a.eval o).run P w = .ok (.value (.int .u64 (xo p q))) w := by
  simp only [execOp, ho, hx, hy]; rfl
theorem J47 (ho : o.op = .binOp .and t x y t') (hx : a.eval x = .int .u64 p) (hy : a.eval y = .int .u64 q) : (execOp a.eval o).run P w = .ok (.value (.int .u64 (an p q))) w := by
  simp only [execOp, ho, hx, hy]; rfl
theorem Q50 (ho : o.op = .binOp .or t x y t') (hx : a.eval x = .int .u64 p) (hy : a.eval y = .int .u64 q) : (execOp a.eval o).run P w = .ok (.value (.int .u64 (oo p q))) w := by
  simp only [execOp, ho, hx, hy]; rfl
theorem J1m (ho : o.op = .binOp .add t x y t') (hx : a.eval x = .int .u64 p) (hy : a.eval y = .int .u64 q) : (execOp a.eval o).run P w = .ok (.value (.int .u64 (ad p q))) w := by
  simp only [execOp, ho, hx, hy]; rfl
theorem Z0w (ho : o.op = .unOp .xor t x) (hx : a.eval x = .int .u64 p) : (execOp a.eval o).run P w = .ok (.value (.int .u64 (nt p))) w := by
  simp only [execOp, ho, hx]; rfl
theorem J2t {k : IntKind} {n : Nat} (hn : n ≤ 64) (ho : o.op = .binOp .shl t x y t') (hx : a.eval x = .int .u64 p) (hy : a.eval y = .int k (n : Int)) : (execOp a.eval o).run P w = .ok (.value (.int .u64 (sl p n))) w := by
  have h : min ((n : Int)).toNat IntKind.u64.bits = n := by rw [Int.toNat_natCast]; exact Nat.min_eq_left hn
  simp only [execOp, ho, hx, hy, eqGuard, binOp, Sem.run_bind]
  simp [Op.shift, h, sl, go_sem, Sem.run_bind]
theorem J0o {k : IntKind} {n : Nat} (hn : n ≤ 64) (ho : o.op = .binOp .shr t x y t') (hx : a.eval x = .int .u64 p) (hy : a.eval y = .int k (n : Int)) : (execOp a.eval o).run P w = .ok (.value (.int .u64 (sr p n))) w := by
  have h : min ((n : Int)).toNat IntKind.u64.bits = n := by rw [Int.toNat_natCast]; exact Nat.min_eq_left hn
  simp only [execOp, ho, hx, hy, eqGuard, binOp, Sem.run_bind]
  simp [Op.shift, h, sr, go_sem, Sem.run_bind]
end
end

section
set_option maxHeartbeats 4000000
attribute [local irreducible] wpList

theorem V01 (n : Nat) (h1 : 1 ≤ n) (h2 : n ≤ 63) : bits .and .u64 (18446744073709551616 - (n : Int)) 63 = ((64 - n : Nat) : Int) := by
  obtain ⟨m, hm⟩ : ∃ m : Nat, m = 18446744073709551616 - n := ⟨_, rfl⟩
  have e : (18446744073709551616 - (n : Int)) = (m : Int) := by omega
  have G : (BitVec.ofInt 64 63).toNat = 2 ^ 6 - 1 := by decide
  have D : (BitVec.ofInt 64 (m : Int) &&& BitVec.ofInt 64 63).toNat = m % 2 ^ 6 := by
    rw [BitVec.toNat_and, BitVec.toNat_ofInt, G, Nat.and_two_pow_sub_one_eq_mod]
    omega
  rw [e]
  show IntKind.u64.wrap ((BitVec.ofInt 64 (m : Int) &&& BitVec.ofInt 64 63).toNat : Nat) = _
  rw [D, IntKind.wrap_u64]
  omega

theorem Y6h (p : Int) (n : Nat) (h1 : 1 ≤ n) (h2 : n ≤ 63) (w : World) :
  Calls Tryz.prog 183 #[.int .u64 p, .int .i64 (-(n : Int))] w fun e w' => K6 (.int .u64 (rt p n)) w w' e := by
 have n0 : (1 : Int) ≤ (n : Int) := by omega
 have n1 : (n : Int) ≤ 63 := by omega
 have ha := V01 n h1 h2
 have D : Off [] w w := Off.refl _ _
 go_enter Tryz.func183, Tryz.ntmps183
 go_upto_region 1 with fail
 refine wp_region_lit ?_
 refine Lv ?_
 refine Lw ?_ (v := .int .u64 (18446744073709551616 - (n : Int))) (hv := by go_simp; (try simp only [IntKind.wrap_u64, IntKind.wrap_i64]); (try omega))
 refine Lw ?_ (v := .int .u64 (((64 - n : Nat) : Int))) (hv := by first | (go_simp; done) | (go_simp; (try rw [ha]); (try omega)))
 refine Lv ?_
 refine J9 ?_
 go_upto_region 2 with fail
 refine wp_region_lit ?_
 refine Lv ?_
 refine Lv ?_
 refine Lw ?_ (v := .int .u64 (sl p (64 - n))) (hv := J2t (n := (64 - n)) (by omega) rfl rfl rfl)
 refine Lv ?_
 refine Lv ?_
 refine Lw ?_ (v := .int .u64 ((n : Int))) (hv := by go_simp; (try simp only [IntKind.wrap_u64, IntKind.wrap_i64]); (try omega))
 refine Lw ?_ (v := .int .u64 (sr p n)) (hv := J0o (n := n) (by omega) rfl rfl rfl)
 refine Lw ?_ (v := .int .u64 (oo (sl p (64 - n)) (sr p n))) (hv := Q50 rfl rfl rfl)
 refine Lv ?_
 refine J9 ?_
 go_wp2
 exact bodyPost_ret (v := .int .u64 (oo (sl p (64 - n)) (sr p n))) (by simp only [results, Tryz.results183]; go_simp) rfl ⟨congrArg (fun z => Ending.returned (.int .u64 z)) (Y0j _ _), D.ext⟩
theorem J5s (p : Int) (n : Nat) (h1 : 1 ≤ n) (h2 : n ≤ 63) (w : World) :
  Calls Tryz.prog 176 #[.int .u64 p, .int .i64 (n : Int)] w fun e w' => K6 (.int .u64 (rt p n)) w w' e := by
 have n0 : (1 : Int) ≤ (n : Int) := by omega
 have n1 : (n : Int) ≤ 63 := by omega
 have D : Off [] w w := Off.refl _ _
 go_enter Tryz.func176, Tryz.ntmps176
 go_upto_region 1 with fail
 refine wp_region_lit ?_
 refine Lv ?_
 refine Lv ?_
 refine Lw ?_ (v := .int .i64 (-(n : Int))) (hv := by go_simp; (try simp only [IntKind.wrap_u64, IntKind.wrap_i64]); (try omega))
 refine Lr ?_ (Y6h p n h1 h2 w)
 intro W1 hO
 replace D := D.o hO
 clear hO
 refine Lv ?_
 refine J9 ?_
 go_wp2
 exact bodyPost_ret (v := .int .u64 (rt p n)) (by simp only [results, Tryz.results176]; go_simp) rfl ⟨rfl, D.ext⟩
theorem J48 (p : Int) (n : Nat) (h1 : 1 ≤ n) (h2 : n ≤ 63) (w : World) :
  Calls Tryz.prog 118 #[.int .u64 p, .int .i64 (n : Int)] w fun e w' => K6 (.int .u64 (rt p n)) w w' e := by
 have n0 : (1 : Int) ≤ (n : Int) := by omega
 have n1 : (n : Int) ≤ 63 := by omega
 have D : Off [] w w := Off.refl _ _
 go_enter Tryz.func118, Tryz.ntmps118
 go_upto_region 1 with fail
 refine J1a 9 [] (by kernel_rfl) (fun x hx => by cases hx) (by kernel_rfl) ?_
 simp only [List.take_succ_cons, List.take_zero, List.take_nil]
 (try simp only [Act.put, mA, mB, mC])
 refine Xv ?_
 refine Xv ?_
 refine Xw ?_ (v := .int .u64 (sr p n)) (hv := fun _ _ => J0o (n := n) (by omega) rfl rfl rfl)
 refine Xv ?_
 refine Xv ?_
 refine Xw ?_ (v := .int .i64 (((64 - n : Nat) : Int))) (hv := fun _ _ => by go_simp; (try simp only [IntKind.wrap_u64, IntKind.wrap_i64]); (try omega))
 refine Xw ?_ (v := .int .u64 (sl p (64 - n))) (hv := fun _ _ => J2t (n := (64 - n)) (by omega) rfl rfl rfl)
 refine Xw ?_ (v := .int .u64 (oo (sr p n) (sl p (64 - n)))) (hv := fun _ _ => Q50 rfl rfl rfl)
 refine Xv ?_
 refine Z7 ?_
 intro β W1 hE hN hD
 clear hN hD
 simp only [J0e, Act.put, mA, mB, mC, List.drop_succ_cons, List.drop_zero, List.drop_nil, List.length_nil, Nat.add_zero]
 have hO := J0k hE
 replace D := D.o hO
 clear hO hE β
 refine LN ?_
 go_wp2
 exact bodyPost_ret (v := .int .u64 (oo (sr p n) (sl p (64 - n)))) (by simp only [results, Tryz.results118]; go_simp) rfl ⟨rfl, D.ext⟩
end

section
set_option maxHeartbeats 4000000
attribute [local irreducible] wpList

theorem Z5t {w : World} {o : Oper} {a : Act} {x : Operand} {c : UInt8} (ho : o.op = .convert 5 71 x) (hx : a.eval x = .int .u8 (c.toNat : Int)) : (execOp a.eval o).run Tryz.prog w = .ok (.value (.int .u64 (c.toNat : Int))) w := by
  have hc := c.toNat_lt
  have hw : IntKind.wrap .u64 (c.toNat : Int) = (c.toNat : Int) := by rw [IntKind.wrap_u64]; omega
  simp [execOp, ho, hx, convert, run_underlying Tryz.underlying5, run_underlying Tryz.underlying71, Sem.run_bind, Conv.intToInt, hw]
def wrd (b : Nat → Int) (i : Nat) : Nat → Int
  | 0 => 0
  | k + 1 => oo (sl (wrd b i k) 8) (b (8 * i + k))
def sg (f : Nat → Int) (i : Nat) : Int := ad (ad (ad (f (i - 16)) (xo (xo (rt (f (i - 15)) 1) (rt (f (i - 15)) 8)) (sr (f (i - 15)) 7))) (f (i - 7))) (xo (xo (rt (f (i - 2)) 19) (rt (f (i - 2)) 61)) (sr (f (i - 2)) 6))
def Y0 (b : Nat → Int) : Nat → Nat → Int
  | 0 => fun _ => 0
  | i + 1 => upd (Y0 b i) i (if i < 16 then wrd b i 8 else sg (Y0 b i) i)
theorem Z5u {b : Nat → Int} {i : Nat} (h : 16 ≤ i) : upd (Y0 b i) i (sg (Y0 b i) i) = Y0 b (i + 1) := by
  show _ = upd (Y0 b i) i (if i < 16 then wrd b i 8 else sg (Y0 b i) i)
  rw [if_neg (by omega)]
theorem Z5v (b : Nat → Int) : ∀ i, i ≤ 16 → ∀ j, Y0 b i j = if j < i then wrd b j 8 else 0
  | 0, _, j => by simp [Y0]
  | i + 1, h, j => by
    show upd (Y0 b i) i (if i < 16 then wrd b i 8 else sg (Y0 b i) i) j = _
    rw [if_pos (by omega)]
    unfold upd
    by_cases hj : j = i
    · rw [if_pos hj, if_pos (by omega), hj]
    · rw [if_neg hj, Z5v b i (by omega) j]
      by_cases hl : j < i
      · rw [if_pos hl, if_pos (by omega)]
      · rw [if_neg hl, if_neg (by omega)]
def fst (b : Nat → Int) (n j : Nat) : Int := if j < n / 8 then wrd b j 8 else if j = n / 8 then wrd b j (n % 8) else 0
theorem Q76 (b : Nat → Int) (n : Nat) : upd (fst b n) (n / 8) (oo (sl (fst b n (n / 8)) 8) (b n)) = fst b (n + 1) := by
  funext j
  have e : fst b n (n / 8) = wrd b (n / 8) (n % 8) := by unfold fst; rw [if_neg (by omega), if_pos rfl]
  have hb : b n = b (8 * (n / 8) + n % 8) := by rw [Nat.div_add_mod]
  rw [e, hb]
  show (if j = n / 8 then wrd b (n / 8) (n % 8 + 1) else fst b n j) = fst b (n + 1) j
  unfold fst
  by_cases hm : n % 8 = 7
  · have h1 : (n + 1) / 8 = n / 8 + 1 := by omega
    have h2 : (n + 1) % 8 = 0 := by omega
    rw [h1, h2, hm]
    by_cases hj : j = n / 8
    · rw [if_pos hj, if_pos (by omega), hj]
    rw [if_neg hj]
    by_cases hl : j < n / 8
    · rw [if_pos hl, if_pos (by omega)]
    rw [if_neg hl, if_neg hj, if_neg (by omega)]
    split
    · rfl
    rfl
  have h1 : (n + 1) / 8 = n / 8 := by omega
  have h2 : (n + 1) % 8 = n % 8 + 1 := by omega
  rw [h1, h2]
  by_cases hj : j = n / 8
  · rw [if_pos hj, if_neg (by omega), if_pos hj, hj]
  rw [if_neg hj]
  by_cases hl : j < n / 8
  · rw [if_pos hl, if_pos hl]
  rw [if_neg hl, if_neg hj, if_neg hl, if_neg hj]
theorem Z0x (b : Nat → Int) : fst b 128 = Y0 b 16 := by
  funext j
  rw [Z5v b 16 (Nat.le_refl _) j]
  unfold fst
  by_cases h : j < 16
  · rw [if_pos (by omega), if_pos h]
  rw [if_neg (by omega), if_neg h]
  split
  · rename_i h2; rw [show 128 % 8 = 0 by rfl]; rfl
  rfl
theorem Q77 (b : Nat → Int) : fst b 0 = fun _ => 0 := by
  funext j
  unfold fst
  rw [if_neg (by omega)]
  split <;> rfl

theorem Z5w (l : List UInt8) (adr : Addr) (c : Nat) (hl : 128 ≤ l.length) (w : World) (hs : Sl w (.slice (some adr) l.length c) l) :
  Calls Tryz.prog 175 #[.slice (some adr) l.length c] w fun e w' => K6 (.agg (J0 .u64 80 (Y0 (bt l) 80))) w w' e := by
 have D : Off [] w w := Off.refl _ _
 have K2 := hs
 go_enter Tryz.func175, Tryz.ntmps175
 go_upto_region 0 with fail
 refine wp_region_lit ?_
 refine Ln ?_ (z := J0 .u64 80 (fun _ => 0)) (t := 187)
 intro T W1 X hO h_
 have α := fbn D X
 replace K2 := Sl.off K2 hO f0
 replace D := D.o hO
 have J := h_
 clear hO h_ X
 refine J9 ?_
 go_upto_region 1 with fail
 refine wp_region_lit ?_
 refine Ln ?_ (z := J0 .u64 80 (fun _ => 0)) (t := 187)
 intro M W2 N hO h_
 have Y := bn J N
 have Z := J7a (Sl.lt K2) N
 have U := fbn D N
 replace J := J.o hO
 replace K2 := Sl.off K2 hO f0
 replace D := D.o hO
 have G := h_
 clear hO h_ N
 refine J9 ?_
 go_wp2_with fail
 go_loopw [8] (fun ii wr => ∃ (n : Nat), (n ≤ 128) ∧ (ii = .int .i64 (n : Int)) ∧ Off [] w wr ∧ Blk wr T (J0 .u64 80 (fun _ => 0)) 187 ∧ Blk wr M (J0 .u64 80 (fst (bt l) n)) 187 ∧ Sl wr (.slice (some adr) l.length c) l)
  (fun ii _ => 128 - (intOf ii).toNat)
 case atStart => exact ⟨0, Nat.zero_le _, rfl, D, J, (by rw [Q77]; exact G), K2⟩
 case round =>
  obtain ⟨n, hn, rfl, D, J, G, K2⟩ := hrel
  obtain ⟨W3, R⟩ := J5e D
  subst R
  by_cases S : n < 128
  ·
   go_upto_region 3 with fail
   refine wp_region_lit ?_
   refine Lw ?_ (v := .bool true)
   refine J9 ?_
   go_upto_region 5 with fail
   refine J1a 14 [] (by kernel_rfl) (fun x hx => by cases hx) (by kernel_rfl) ?_
   simp only [List.take_succ_cons, List.take_zero, List.take_nil]
   (try simp only [Act.put, mA, mB, mC])
   refine Xv ?_
   refine Xw ?_ (v := .int .i64 (((n / 8 : Nat) : Int))) (hv := fun _ _ => by go_simp; (try simp only [IntKind.wrap_u64, IntKind.wrap_i64]); (try omega))
   refine Xv ?_
   refine Xw ?_ (v := .int .i64 (((n / 8 : Nat) : Int))) (hv := fun _ _ => by go_simp; (try simp only [IntKind.wrap_u64, IntKind.wrap_i64]); (try omega))
   refine Xw ?_ (v := .pointer (some ⟨M, 0 + (n / 8), none⟩)) (hv := fun _ _ => J7 (m := 80) (by decide) (by omega) Tryz.underlying187 (by kernel_rfl) rfl rfl rfl)
   refine Xc ?_ (v := .int .u64 ((fst (bt l) n) (n / 8))) (K7 G) (hj := by rw [Nat.zero_add]; exact J4 _ _ _ _ (by omega))
   refine Xw ?_ (v := .int .u64 (sl ((fst (bt l) n) (n / 8)) 8)) (hv := fun _ _ => J2t (n := 8) (by decide) rfl rfl rfl)
   refine Xv ?_
   refine Xv ?_
   refine Xw ?_ (v := .pointer (some (adr.add n))) (hv := fun W hW => Q18 (j := n) (by omega) rfl rfl rfl)
   refine Z5p (by rfl) rfl rfl (fun W hW => J2b (Q70 K2 (J80 (by omega))) hW) (by kernel_rfl) ?_
   (try simp only [Act.put, mA, mB, mC])
   refine Xw ?_ (v := .int .u64 (bt l n)) (hv := fun _ _ => by exact Z5t rfl rfl)
   refine Xw ?_ (v := .int .u64 (oo (sl ((fst (bt l) n) (n / 8)) 8) (bt l n))) (hv := fun _ _ => Q50 rfl rfl rfl)
   refine Xw ?_ (v := .pointer (some ⟨M, 0 + (n / 8), none⟩)) (hv := fun _ _ => J7 (m := 80) (by decide) (by omega) Tryz.underlying187 (by kernel_rfl) rfl rfl rfl)
   refine Z7 ?_
   intro β W4 hE hN hD
   clear hN hD
   simp only [J0e, Act.put, mA, mB, mC, List.drop_succ_cons, List.drop_zero, List.drop_nil, List.length_nil, Nat.add_zero]
   have hO := J0k hE
   replace J := J.o hO
   replace G := G.o hO
   replace K2 := Sl.off K2 hO f0
   replace D := D.o hO
   clear hO hE β
   refine J4c (v := .int .u64 (oo (sl ((fst (bt l) n) (n / 8)) 8) (bt l n))) ⟨rfl, rfl⟩ (by rfl) rfl rfl rfl G (by rw [J2, Nat.zero_add]; omega) (by kernel_rfl) ?_
   (try simp only [Act.put, mA, mB, mC])
   intro W5 hO h_
   rw [Nat.zero_add, V6] at h_
   replace G : Blk W5 M (J0 .u64 80 (upd (fst (bt l) n) (n / 8) (oo (sl ((fst (bt l) n) (n / 8)) 8) (bt l n)))) 187 := h_
   clear h_
   replace J := J.p hO Y
   replace K2 := Sl.off K2 hO (f1 Z)
   replace D := D.p hO U
   clear hO
   refine LN ?_
   go_wp2
   go_roundw
   case rel => exact ⟨n + 1, by omega, by go_num, D, J, (by rw [← Q76]; exact G), K2⟩
   case measure => simp [intOf]; omega
  obtain rfl : n = 128 := by omega
  rw [Z0x] at G
  go_upto_region 3 with fail
  refine wp_region_lit ?_
  refine Lw ?_ (v := .bool false)
  refine J9 ?_
  go_wp2_with fail
  go_loopw [5] (fun ii wr => ∃ (i : Nat), (16 ≤ i ∧ i ≤ 80) ∧ (ii = .int .i64 (i : Int)) ∧ Off [] w wr ∧ Blk wr T (J0 .u64 80 (fun _ => 0)) 187 ∧ Blk wr M (J0 .u64 80 (Y0 (bt l) i)) 187 ∧ Sl wr (.slice (some adr) l.length c) l)
   (fun ii _ => 80 - (intOf ii).toNat)
  case atStart => exact ⟨16, ⟨Nat.le_refl _, by decide⟩, rfl, D, J, G, K2⟩
  case round =>
   obtain ⟨i, ⟨hi, γ⟩, rfl, D, J, G, K2⟩ := hrel
   obtain ⟨W4, R⟩ := J5e D
   subst R
   by_cases V : i < 80
   ·
    go_upto_region 8 with fail
    refine wp_region_lit ?_
    refine Lv ?_
    refine Lw ?_ (v := .bool true)
    refine J9 ?_
    go_upto_region 10 with fail
    refine J1a 10 [] (by kernel_rfl) (fun x hx => by cases hx) (by kernel_rfl) ?_
    simp only [List.take_succ_cons, List.take_zero, List.take_nil]
    (try simp only [Act.put, mA, mB, mC])
    refine Xv ?_
    refine Xw ?_ (v := .int .i64 (((i - 15 : Nat) : Int))) (hv := fun _ _ => by go_simp; (try simp only [IntKind.wrap_u64, IntKind.wrap_i64]); (try omega))
    refine Xw ?_ (v := .pointer (some ⟨M, 0 + (i - 15), none⟩)) (hv := fun _ _ => J7 (m := 80) (by decide) (by omega) Tryz.underlying187 (by kernel_rfl) rfl rfl rfl)
    refine Xc ?_ (v := .int .u64 ((Y0 (bt l) i) (i - 15))) (K7 G) (hj := by rw [Nat.zero_add]; exact J4 _ _ _ _ (by omega))
    refine Xv ?_
    refine Xw ?_ (v := .int .i64 (((i - 2 : Nat) : Int))) (hv := fun _ _ => by go_simp; (try simp only [IntKind.wrap_u64, IntKind.wrap_i64]); (try omega))
    refine Xw ?_ (v := .pointer (some ⟨M, 0 + (i - 2), none⟩)) (hv := fun _ _ => J7 (m := 80) (by decide) (by omega) Tryz.underlying187 (by kernel_rfl) rfl rfl rfl)
    refine Xc ?_ (v := .int .u64 ((Y0 (bt l) i) (i - 2))) (K7 G) (hj := by rw [Nat.zero_add]; exact J4 _ _ _ _ (by omega))
    refine Xv ?_
    refine Xv ?_
    refine Z7 ?_
    intro β W5 hE hN hD
    clear hN hD
    simp only [J0e, Act.put, mA, mB, mC, List.drop_succ_cons, List.drop_zero, List.drop_nil, List.length_nil, Nat.add_zero]
    have hO := J0k hE
    replace J := J.o hO
    replace G := G.o hO
    replace K2 := Sl.off K2 hO f0
    replace D := D.o hO
    clear hO hE β
    refine LN ?_
    go_upto_region 11 with fail
    refine J1a 29 [] (by kernel_rfl) (fun x hx => by cases hx) (by kernel_rfl) ?_
    simp only [List.take_succ_cons, List.take_zero, List.take_nil]
    (try simp only [Act.put, mA, mB, mC])
    refine Xv ?_
    refine Xv ?_
    refine Xw ?_ (v := .int .i64 (((i - 16 : Nat) : Int))) (hv := fun _ _ => by go_simp; (try simp only [IntKind.wrap_u64, IntKind.wrap_i64]); (try omega))
    refine Xw ?_ (v := .pointer (some ⟨M, 0 + (i - 16), none⟩)) (hv := fun _ _ => J7 (m := 80) (by decide) (by omega) Tryz.underlying187 (by kernel_rfl) rfl rfl rfl)
    refine Xc ?_ (v := .int .u64 ((Y0 (bt l) i) (i - 16))) (K7 G) (hj := by rw [Nat.zero_add]; exact J4 _ _ _ _ (by omega))
    refine Xv ?_
    refine Xf ?_ (fun W hW => J5s ((Y0 (bt l) i) (i - 15)) 1 (by decide) (by decide) W)
    refine Xv ?_
    refine Xf ?_ (fun W hW => J5s ((Y0 (bt l) i) (i - 15)) 8 (by decide) (by decide) W)
    refine Xw ?_ (v := .int .u64 (xo (rt ((Y0 (bt l) i) (i - 15)) 1) (rt ((Y0 (bt l) i) (i - 15)) 8))) (hv := fun _ _ => J0t rfl rfl rfl)
    refine Xv ?_
    refine Xw ?_ (v := .int .u64 (sr ((Y0 (bt l) i) (i - 15)) 7)) (hv := fun _ _ => J0o (n := 7) (by decide) rfl rfl rfl)
    refine Xw ?_ (v := .int .u64 (xo (xo (rt ((Y0 (bt l) i) (i - 15)) 1) (rt ((Y0 (bt l) i) (i - 15)) 8)) (sr ((Y0 (bt l) i) (i - 15)) 7))) (hv := fun _ _ => J0t rfl rfl rfl)
    refine Xw ?_ (v := .int .u64 (ad ((Y0 (bt l) i) (i - 16)) (xo (xo (rt ((Y0 (bt l) i) (i - 15)) 1) (rt ((Y0 (bt l) i) (i - 15)) 8)) (sr ((Y0 (bt l) i) (i - 15)) 7)))) (hv := fun _ _ => J1m rfl rfl rfl)
    refine Xv ?_
    refine Xw ?_ (v := .int .i64 (((i - 7 : Nat) : Int))) (hv := fun _ _ => by go_simp; (try simp only [IntKind.wrap_u64, IntKind.wrap_i64]); (try omega))
    refine Xw ?_ (v := .pointer (some ⟨M, 0 + (i - 7), none⟩)) (hv := fun _ _ => J7 (m := 80) (by decide) (by omega) Tryz.underlying187 (by kernel_rfl) rfl rfl rfl)
    refine Xc ?_ (v := .int .u64 ((Y0 (bt l) i) (i - 7))) (K7 G) (hj := by rw [Nat.zero_add]; exact J4 _ _ _ _ (by omega))
    refine Xw ?_ (v := .int .u64 (ad (ad ((Y0 (bt l) i) (i - 16)) (xo (xo (rt ((Y0 (bt l) i) (i - 15)) 1) (rt ((Y0 (bt l) i) (i - 15)) 8)) (sr ((Y0 (bt l) i) (i - 15)) 7))) ((Y0 (bt l) i) (i - 7)))) (hv := fun _ _ => J1m rfl rfl rfl)
    refine Xv ?_
    refine Xf ?_ (fun W hW => J5s ((Y0 (bt l) i) (i - 2)) 19 (by decide) (by decide) W)
    refine Xv ?_
    refine Xf ?_ (fun W hW => J5s ((Y0 (bt l) i) (i - 2)) 61 (by decide) (by decide) W)
    refine Xw ?_ (v := .int .u64 (xo (rt ((Y0 (bt l) i) (i - 2)) 19) (rt ((Y0 (bt l) i) (i - 2)) 61))) (hv := fun _ _ => J0t rfl rfl rfl)
    refine Xv ?_
    refine Xw ?_ (v := .int .u64 (sr ((Y0 (bt l) i) (i - 2)) 6)) (hv := fun _ _ => J0o (n := 6) (by decide) rfl rfl rfl)
    refine Xw ?_ (v := .int .u64 (xo (xo (rt ((Y0 (bt l) i) (i - 2)) 19) (rt ((Y0 (bt l) i) (i - 2)) 61)) (sr ((Y0 (bt l) i) (i - 2)) 6))) (hv := fun _ _ => J0t rfl rfl rfl)
    refine Xw ?_ (v := .int .u64 (ad (ad (ad ((Y0 (bt l) i) (i - 16)) (xo (xo (rt ((Y0 (bt l) i) (i - 15)) 1) (rt ((Y0 (bt l) i) (i - 15)) 8)) (sr ((Y0 (bt l) i) (i - 15)) 7))) ((Y0 (bt l) i) (i - 7))) (xo (xo (rt ((Y0 (bt l) i) (i - 2)) 19) (rt ((Y0 (bt l) i) (i - 2)) 61)) (sr ((Y0 (bt l) i) (i - 2)) 6)))) (hv := fun _ _ => J1m rfl rfl rfl)
    refine Xw ?_ (v := .pointer (some ⟨M, 0 + i, none⟩)) (hv := fun _ _ => J7 (m := 80) (by decide) (by omega) Tryz.underlying187 (by kernel_rfl) rfl rfl rfl)
    refine Z7 ?_
    intro β W6 hE hN hD
    clear hN hD
    simp only [J0e, Act.put, mA, mB, mC, List.drop_succ_cons, List.drop_zero, List.drop_nil, List.length_nil, Nat.add_zero]
    have hO := J0k hE
    replace J := J.o hO
    replace G := G.o hO
    replace K2 := Sl.off K2 hO f0
    replace D := D.o hO
    clear hO hE β
    refine J4c (v := .int .u64 (ad (ad (ad ((Y0 (bt l) i) (i - 16)) (xo (xo (rt ((Y0 (bt l) i) (i - 15)) 1) (rt ((Y0 (bt l) i) (i - 15)) 8)) (sr ((Y0 (bt l) i) (i - 15)) 7))) ((Y0 (bt l) i) (i - 7))) (xo (xo (rt ((Y0 (bt l) i) (i - 2)) 19) (rt ((Y0 (bt l) i) (i - 2)) 61)) (sr ((Y0 (bt l) i) (i - 2)) 6)))) ⟨rfl, rfl⟩ (by rfl) rfl rfl rfl G (by rw [J2, Nat.zero_add]; omega) (by kernel_rfl) ?_
    (try simp only [Act.put, mA, mB, mC])
    intro W7 hO h_
    rw [Nat.zero_add, V6] at h_
    replace G : Blk W7 M (J0 .u64 80 (upd (Y0 (bt l) i) i (ad (ad (ad ((Y0 (bt l) i) (i - 16)) (xo (xo (rt ((Y0 (bt l) i) (i - 15)) 1) (rt ((Y0 (bt l) i) (i - 15)) 8)) (sr ((Y0 (bt l) i) (i - 15)) 7))) ((Y0 (bt l) i) (i - 7))) (xo (xo (rt ((Y0 (bt l) i) (i - 2)) 19) (rt ((Y0 (bt l) i) (i - 2)) 61)) (sr ((Y0 (bt l) i) (i - 2)) 6))))) 187 := h_
    clear h_
    replace J := J.p hO Y
    replace K2 := Sl.off K2 hO (f1 Z)
    replace D := D.p hO U
    clear hO
    refine LN ?_
    go_wp2
    go_roundw
    case rel => exact ⟨i + 1, ⟨by omega, by omega⟩, by go_num, D, J, (by rw [← Z5u hi]; exact G), K2⟩
    case measure => simp [intOf]; omega
   obtain rfl : i = 80 := by omega
   go_upto_region 8 with fail
   refine wp_region_lit ?_
   refine Lv ?_
   refine Lw ?_ (v := .bool false)
   refine J9 ?_
   go_upto_region 12 with fail
   refine wp_region_lit ?_
   refine L0A ?_ G
   refine Lp ?_ J (cells := J0 .u64 80 (Y0 (bt l) 80)) (hi := by rw [J2]; kernel_rfl) (hs := by rw [J2, J2]) (h1 := by exact Z0 _ _ _)
   intro W5 hO h_
   replace J : Blk W5 T (J0 .u64 80 (Y0 (bt l) 80)) 187 := h_
   clear h_
   replace D := D.p hO α
   clear hO
   refine J9 ?_
   go_wp2
   refine bodyPost_ret (Y3 rfl rfl J (by kernel_rfl) (by rw [J2]; kernel_rfl)) rfl ⟨rfl, D.ext⟩
end

section
set_option maxHeartbeats 4000000
attribute [local irreducible] wpList

def kk : List Int := [4794697086780616226, 8158064640168781261, 13096744586834688815, 16840607885511220156, 4131703408338449720, 6480981068601479193, 10538285296894168987, 12329834152419229976, 15566598209576043074, 1334009975649890238, 2608012711638119052, 6128411473006802146, 8268148722764581231, 9286055187155687089, 11230858885718282805, 13951009754708518548, 16472876342353939154, 17275323862435702243, 1135362057144423861, 2597628984639134821, 3308224258029322869, 5365058923640841347, 6679025012923562964, 8573033837759648693, 10970295158949994411, 12119686244451234320, 12683024718118986047, 13788192230050041572, 14330467153632333762, 15395433587784984357, 489312712824947311, 1452737877330783856, 2861767655752347644, 3322285676063803686, 5560940570517711597, 5996557281743188959, 7280758554555802590, 8532644243296465576, 9350256976987008742, 10552545826968843579, 11727347734174303076, 12113106623233404929, 14000437183269869457, 14369950271660146224, 15101387698204529176, 15463397548674623760, 17586052441742319658, 1182934255886127544, 1847814050463011016, 2177327727835720531, 2830643537854262169, 3796741975233480872, 4115178125766777443, 5681478168544905931, 6601373596472566643, 7507060721942968483, 8399075790359081724, 8693463985226723168, 9568029438360202098, 10144078919501101548, 10430055236837252648, 11840083180663258601, 13761210420658862357, 14299343276471374635, 14566680578165727644, 15097957966210449927, 16922976911328602910, 17689382322260857208, 500013540394364858, 748580250866718886, 1242879168328830382, 1977374033974150939, 2944078676154940804, 3659926193048069267, 4368137639120453308, 4836135668995329356, 5532061633213252278, 6448918945643986474, 6902733635092675308, 7801388544844847127]
def hh : List Int := [7640891576956012808, 13503953896175478587, 4354685564936845355, 11912009170470909681, 5840696475078001361, 11170449401992604703, 2270897969802886507, 6620516959819538809]
def kf (i : Nat) : Int := kk.getD i 0
def hf (i : Nat) : Int := hh.getD i 0
def GS (w : World) : Prop := Rd w 14 (J0 .u64 80 kf) ∧ Rd w 10 (J0 .u64 8 hf)
theorem Q51 {w W : World} (h : GS w) (e : Ext w W) : GS W := ⟨h.1.ext e, h.2.ext e⟩
def rT (k w : Nat → Int) (i : Nat) (v : Nat → Int) : Int := ad (ad (ad (ad (v 7) (xo (xo (rt (v 4) 14) (rt (v 4) 18)) (rt (v 4) 41))) (xo (an (v 4) (v 5)) (an (nt (v 4)) (v 6)))) (k i)) (w i)
def rU (v : Nat → Int) : Int := ad (xo (xo (rt (v 0) 28) (rt (v 0) 34)) (rt (v 0) 39)) (xo (xo (an (v 0) (v 1)) (an (v 0) (v 2))) (an (v 1) (v 2)))
def rnd (k w : Nat → Int) (i : Nat) (v : Nat → Int) : Nat → Int
  | 0 => ad (rT k w i v) (rU v)
  | 1 => v 0
  | 2 => v 1
  | 3 => v 2
  | 4 => ad (v 3) (rT k w i v)
  | 5 => v 4
  | 6 => v 5
  | 7 => v 6
  | _ => 0
def Z3 (k w v : Nat → Int) : Nat → Nat → Int
  | 0 => v
  | i + 1 => rnd k w i (Z3 k w v i)
def prs (h b : Nat → Int) (j : Nat) : Int := ad (h j) (Z3 kf (Y0 b 80) h 80 j)
def mx (h v : Nat → Int) (i j : Nat) : Int := if j < i then ad (h j) (v j) else h j
theorem Z0y (h v : Nat → Int) (i : Nat) : upd (mx h v i) i (ad (mx h v i i) (v i)) = mx h v (i + 1) := by
  funext j
  unfold upd mx
  by_cases hj : j = i
  · subst hj; rw [if_pos rfl, if_neg (by omega), if_pos (by omega)]
  rw [if_neg hj]
  by_cases hl : j < i
  · rw [if_pos hl, if_pos (by omega)]
  rw [if_neg hl, if_neg (by omega)]
theorem Z0z (h v : Nat → Int) : mx h v 0 = h := by funext j; unfold mx; rw [if_neg (by omega)]
theorem Z5x (h b : Nat → Int) : J0 .u64 8 (mx h (Z3 kf (Y0 b 80) h 80) 8) = J0 .u64 8 (prs h b) := K8 _ _ _ _ fun j hj => by unfold mx prs; rw [if_pos hj]

theorem Y0m (h : Nat → Int) (l : List UInt8) (adr : Addr) (c : Nat) (hl : 128 ≤ l.length) (w : World) (hs : Sl w (.slice (some adr) l.length c) l) (hG : GS w) :
  Calls Tryz.prog 158 #[.agg (J0 .u64 8 h), .slice (some adr) l.length c] w fun e w' => K6 (.agg (J0 .u64 8 (prs h (bt l)))) w w' e := by
 have HG := Lib.hid hG
 clear hG
 have G : Off [] w w := Off.refl _ _
 have K2 := hs
 go_enter Tryz.func158, Tryz.ntmps158
 go_upto_region 0 with fail
 refine wp_region_lit ?_
 refine Ln ?_ (z := J0 .u64 8 h) (t := 186)
 intro U W1 δ hO h_
 have ξ := J7a (Sl.lt K2) δ
 have ρ := fbn G δ
 replace K2 := Sl.off K2 hO f0
 replace G := G.o hO
 have J := h_
 clear hO h_ δ
 refine Ln ?_ (z := J0 .u64 8 (fun _ => 0)) (t := 186)
 intro Z W2 ζ hO h_
 have V := bn J ζ
 have μ := fbn G ζ
 replace J := J.o hO
 replace K2 := Sl.off K2 hO f0
 replace G := G.o hO
 have M := h_
 clear hO h_ ζ
 refine J9 ?_
 go_upto_region 1 with fail
 refine wp_region_lit ?_
 refine Lv ?_
 refine Lr ?_ (Z5w l adr c hl W2 K2)
 intro W3 hO
 replace J := J.o hO
 replace M := M.o hO
 replace K2 := Sl.off K2 hO f0
 replace G := G.o hO
 clear hO
 refine LnP ?_ (z := J0 .u64 80 (fun _ => 0)) (t := 187) (cells := J0 .u64 80 (Y0 (bt l) 80)) (hi := by rw [J2]; kernel_rfl) (hs := by rw [J2, J2]) (h1 := by exact Z0 _ _ _)
 intro ε W5 η hO h_
 have X := bn J η
 replace J := J.o hO
 replace M := M.o hO
 replace K2 := Sl.off K2 hO f0
 replace G := G.o hO
 have R := h_
 clear hO h_ η
 refine J9 ?_
 go_upto_region 2 with fail
 refine wp_region_lit ?_
 refine L0A ?_ J
 refine LnP ?_ (z := J0 .u64 8 (fun _ => 0)) (t := 186) (cells := J0 .u64 8 h) (hi := by rw [J2]; kernel_rfl) (hs := by rw [J2, J2]) (h1 := by exact Z0 _ _ _)
 intro N W7 T hO h_
 have S := bn J T
 have σ := bn M T
 have κ := bn R T
 have τ := J7a (Sl.lt K2) T
 have ν := fbn G T
 replace J := J.o hO
 replace M := M.o hO
 replace R := R.o hO
 replace K2 := Sl.off K2 hO f0
 replace G := G.o hO
 have D := h_
 clear hO h_ T
 refine J9 ?_
 go_wp2_with fail
 go_loopw [14] (fun ii wr => ∃ (i : Nat), (i ≤ 80) ∧ (ii = .int .i64 (i : Int)) ∧ Off [] w wr ∧ Blk wr U (J0 .u64 8 h) 186 ∧ Blk wr Z (J0 .u64 8 (fun _ => 0)) 186 ∧ Blk wr ε (J0 .u64 80 (Y0 (bt l) 80)) 187 ∧ Blk wr N (J0 .u64 8 (Z3 kf (Y0 (bt l) 80) h i)) 186 ∧ Sl wr (.slice (some adr) l.length c) l)
  (fun ii _ => 80 - (intOf ii).toNat)
 case atStart => exact ⟨0, Nat.zero_le _, rfl, G, J, M, R, D, K2⟩
 case round =>
  obtain ⟨i, hi, rfl, G, J, M, R, D, K2⟩ := hrel
  obtain ⟨W8, Y⟩ := J5e G
  subst Y
  by_cases θ : i < 80
  ·
   go_upto_region 4 with fail
   refine wp_region_lit ?_
   refine Lw ?_ (v := .bool true)
   refine J9 ?_
   go_upto_region 6 with fail
   refine J1a 36 [] (by kernel_rfl) (fun x hx => by cases hx) (by kernel_rfl) ?_
   simp only [List.take_succ_cons, List.take_zero, List.take_nil]
   (try simp only [Act.put, mA, mB, mC])
   refine Xw ?_ (v := .pointer (some ⟨N, 0 + 7, none⟩)) (hv := fun _ _ => J7 (m := 8) (by decide) (by omega) Tryz.underlying186 (by kernel_rfl) rfl rfl rfl)
   refine Xc ?_ (v := .int .u64 ((Z3 kf (Y0 (bt l) 80) h i) 7)) (K7 D) (hj := by rw [Nat.zero_add]; exact J4 _ _ _ _ (by omega))
   refine Xw ?_ (v := .pointer (some ⟨N, 0 + 4, none⟩)) (hv := fun _ _ => J7 (m := 8) (by decide) (by omega) Tryz.underlying186 (by kernel_rfl) rfl rfl rfl)
   refine Xc ?_ (v := .int .u64 ((Z3 kf (Y0 (bt l) 80) h i) 4)) (K7 D) (hj := by rw [Nat.zero_add]; exact J4 _ _ _ _ (by omega))
   refine Xf ?_ (fun W hW => J5s ((Z3 kf (Y0 (bt l) 80) h i) 4) 14 (by decide) (by decide) W)
   refine Xw ?_ (v := .pointer (some ⟨N, 0 + 4, none⟩)) (hv := fun _ _ => J7 (m := 8) (by decide) (by omega) Tryz.underlying186 (by kernel_rfl) rfl rfl rfl)
   refine Xc ?_ (v := .int .u64 ((Z3 kf (Y0 (bt l) 80) h i) 4)) (K7 D) (hj := by rw [Nat.zero_add]; exact J4 _ _ _ _ (by omega))
   refine Xf ?_ (fun W hW => J5s ((Z3 kf (Y0 (bt l) 80) h i) 4) 18 (by decide) (by decide) W)
   refine Xw ?_ (v := .int .u64 (xo (rt ((Z3 kf (Y0 (bt l) 80) h i) 4) 14) (rt ((Z3 kf (Y0 (bt l) 80) h i) 4) 18))) (hv := fun _ _ => J0t rfl rfl rfl)
   refine Xw ?_ (v := .pointer (some ⟨N, 0 + 4, none⟩)) (hv := fun _ _ => J7 (m := 8) (by decide) (by omega) Tryz.underlying186 (by kernel_rfl) rfl rfl rfl)
   refine Xc ?_ (v := .int .u64 ((Z3 kf (Y0 (bt l) 80) h i) 4)) (K7 D) (hj := by rw [Nat.zero_add]; exact J4 _ _ _ _ (by omega))
   refine Xf ?_ (fun W hW => J5s ((Z3 kf (Y0 (bt l) 80) h i) 4) 41 (by decide) (by decide) W)
   refine Xw ?_ (v := .int .u64 (xo (xo (rt ((Z3 kf (Y0 (bt l) 80) h i) 4) 14) (rt ((Z3 kf (Y0 (bt l) 80) h i) 4) 18)) (rt ((Z3 kf (Y0 (bt l) 80) h i) 4) 41))) (hv := fun _ _ => J0t rfl rfl rfl)
   refine Xw ?_ (v := .int .u64 (ad ((Z3 kf (Y0 (bt l) 80) h i) 7) (xo (xo (rt ((Z3 kf (Y0 (bt l) 80) h i) 4) 14) (rt ((Z3 kf (Y0 (bt l) 80) h i) 4) 18)) (rt ((Z3 kf (Y0 (bt l) 80) h i) 4) 41)))) (hv := fun _ _ => J1m rfl rfl rfl)
   refine Xw ?_ (v := .pointer (some ⟨N, 0 + 4, none⟩)) (hv := fun _ _ => J7 (m := 8) (by decide) (by omega) Tryz.underlying186 (by kernel_rfl) rfl rfl rfl)
   refine Xc ?_ (v := .int .u64 ((Z3 kf (Y0 (bt l) 80) h i) 4)) (K7 D) (hj := by rw [Nat.zero_add]; exact J4 _ _ _ _ (by omega))
   refine Xw ?_ (v := .pointer (some ⟨N, 0 + 5, none⟩)) (hv := fun _ _ => J7 (m := 8) (by decide) (by omega) Tryz.underlying186 (by kernel_rfl) rfl rfl rfl)
   refine Xc ?_ (v := .int .u64 ((Z3 kf (Y0 (bt l) 80) h i) 5)) (K7 D) (hj := by rw [Nat.zero_add]; exact J4 _ _ _ _ (by omega))
   refine Xw ?_ (v := .int .u64 (an ((Z3 kf (Y0 (bt l) 80) h i) 4) ((Z3 kf (Y0 (bt l) 80) h i) 5))) (hv := fun _ _ => J47 rfl rfl rfl)
   refine Xw ?_ (v := .pointer (some ⟨N, 0 + 4, none⟩)) (hv := fun _ _ => J7 (m := 8) (by decide) (by omega) Tryz.underlying186 (by kernel_rfl) rfl rfl rfl)
   refine Xc ?_ (v := .int .u64 ((Z3 kf (Y0 (bt l) 80) h i) 4)) (K7 D) (hj := by rw [Nat.zero_add]; exact J4 _ _ _ _ (by omega))
   refine Xw ?_ (v := .int .u64 (nt ((Z3 kf (Y0 (bt l) 80) h i) 4))) (hv := fun _ _ => Z0w rfl rfl)
   refine Xw ?_ (v := .pointer (some ⟨N, 0 + 6, none⟩)) (hv := fun _ _ => J7 (m := 8) (by decide) (by omega) Tryz.underlying186 (by kernel_rfl) rfl rfl rfl)
   refine Xc ?_ (v := .int .u64 ((Z3 kf (Y0 (bt l) 80) h i) 6)) (K7 D) (hj := by rw [Nat.zero_add]; exact J4 _ _ _ _ (by omega))
   refine Xw ?_ (v := .int .u64 (an (nt ((Z3 kf (Y0 (bt l) 80) h i) 4)) ((Z3 kf (Y0 (bt l) 80) h i) 6))) (hv := fun _ _ => J47 rfl rfl rfl)
   refine Xw ?_ (v := .int .u64 (xo (an ((Z3 kf (Y0 (bt l) 80) h i) 4) ((Z3 kf (Y0 (bt l) 80) h i) 5)) (an (nt ((Z3 kf (Y0 (bt l) 80) h i) 4)) ((Z3 kf (Y0 (bt l) 80) h i) 6)))) (hv := fun _ _ => J0t rfl rfl rfl)
   refine Xw ?_ (v := .int .u64 (ad (ad ((Z3 kf (Y0 (bt l) 80) h i) 7) (xo (xo (rt ((Z3 kf (Y0 (bt l) 80) h i) 4) 14) (rt ((Z3 kf (Y0 (bt l) 80) h i) 4) 18)) (rt ((Z3 kf (Y0 (bt l) 80) h i) 4) 41))) (xo (an ((Z3 kf (Y0 (bt l) 80) h i) 4) ((Z3 kf (Y0 (bt l) 80) h i) 5)) (an (nt ((Z3 kf (Y0 (bt l) 80) h i) 4)) ((Z3 kf (Y0 (bt l) 80) h i) 6))))) (hv := fun _ _ => J1m rfl rfl rfl)
   refine Xv ?_
   refine Xw ?_ (v := .pointer (some ⟨14, 0 + i, none⟩)) (hv := fun _ _ => J7 (m := 80) (by decide) (by omega) Tryz.underlying187 (by kernel_rfl) rfl rfl rfl)
   refine Xc ?_ (v := .int .u64 (kf i)) ((Q51 HG.out G.ext).1) (hj := by rw [Nat.zero_add]; exact J4 _ _ _ _ (by omega))
   refine Xw ?_ (v := .int .u64 (ad (ad (ad ((Z3 kf (Y0 (bt l) 80) h i) 7) (xo (xo (rt ((Z3 kf (Y0 (bt l) 80) h i) 4) 14) (rt ((Z3 kf (Y0 (bt l) 80) h i) 4) 18)) (rt ((Z3 kf (Y0 (bt l) 80) h i) 4) 41))) (xo (an ((Z3 kf (Y0 (bt l) 80) h i) 4) ((Z3 kf (Y0 (bt l) 80) h i) 5)) (an (nt ((Z3 kf (Y0 (bt l) 80) h i) 4)) ((Z3 kf (Y0 (bt l) 80) h i) 6)))) (kf i))) (hv := fun _ _ => J1m rfl rfl rfl)
   refine Xv ?_
   refine Xw ?_ (v := .pointer (some ⟨ε, 0 + i, none⟩)) (hv := fun _ _ => J7 (m := 80) (by decide) (by omega) Tryz.underlying187 (by kernel_rfl) rfl rfl rfl)
   refine Xc ?_ (v := .int .u64 ((Y0 (bt l) 80) i)) (K7 R) (hj := by rw [Nat.zero_add]; exact J4 _ _ _ _ (by omega))
   refine Xw ?_ (v := .int .u64 (rT kf (Y0 (bt l) 80) i (Z3 kf (Y0 (bt l) 80) h i)))
   refine Xv ?_
   refine Z7 ?_
   intro β W9 hE hN hD
   clear hN hD
   simp only [J0e, Act.put, mA, mB, mC, List.drop_succ_cons, List.drop_zero, List.drop_nil, List.length_nil, Nat.add_zero]
   have hO := J0k hE
   replace J := J.o hO
   replace M := M.o hO
   replace R := R.o hO
   replace D := D.o hO
   replace K2 := Sl.off K2 hO f0
   replace G := G.o hO
   clear hO hE β
   refine LN ?_
   go_upto_region 7 with fail
   refine J1a 30 [] (by kernel_rfl) (fun x hx => by cases hx) (by kernel_rfl) ?_
   simp only [List.take_succ_cons, List.take_zero, List.take_nil]
   (try simp only [Act.put, mA, mB, mC])
   refine Xw ?_ (v := .pointer (some ⟨N, 0 + 0, none⟩)) (hv := fun _ _ => J7 (m := 8) (by decide) (by omega) Tryz.underlying186 (by kernel_rfl) rfl rfl rfl)
   refine Xc ?_ (v := .int .u64 ((Z3 kf (Y0 (bt l) 80) h i) 0)) (K7 D) (hj := by rw [Nat.zero_add]; exact J4 _ _ _ _ (by omega))
   refine Xf ?_ (fun W hW => J5s ((Z3 kf (Y0 (bt l) 80) h i) 0) 28 (by decide) (by decide) W)
   refine Xw ?_ (v := .pointer (some ⟨N, 0 + 0, none⟩)) (hv := fun _ _ => J7 (m := 8) (by decide) (by omega) Tryz.underlying186 (by kernel_rfl) rfl rfl rfl)
   refine Xc ?_ (v := .int .u64 ((Z3 kf (Y0 (bt l) 80) h i) 0)) (K7 D) (hj := by rw [Nat.zero_add]; exact J4 _ _ _ _ (by omega))
   refine Xf ?_ (fun W hW => J5s ((Z3 kf (Y0 (bt l) 80) h i) 0) 34 (by decide) (by decide) W)
   refine Xw ?_ (v := .int .u64 (xo (rt ((Z3 kf (Y0 (bt l) 80) h i) 0) 28) (rt ((Z3 kf (Y0 (bt l) 80) h i) 0) 34))) (hv := fun _ _ => J0t rfl rfl rfl)
   refine Xw ?_ (v := .pointer (some ⟨N, 0 + 0, none⟩)) (hv := fun _ _ => J7 (m := 8) (by decide) (by omega) Tryz.underlying186 (by kernel_rfl) rfl rfl rfl)
   refine Xc ?_ (v := .int .u64 ((Z3 kf (Y0 (bt l) 80) h i) 0)) (K7 D) (hj := by rw [Nat.zero_add]; exact J4 _ _ _ _ (by omega))
   refine Xf ?_ (fun W hW => J5s ((Z3 kf (Y0 (bt l) 80) h i) 0) 39 (by decide) (by decide) W)
   refine Xw ?_ (v := .int .u64 (xo (xo (rt ((Z3 kf (Y0 (bt l) 80) h i) 0) 28) (rt ((Z3 kf (Y0 (bt l) 80) h i) 0) 34)) (rt ((Z3 kf (Y0 (bt l) 80) h i) 0) 39))) (hv := fun _ _ => J0t rfl rfl rfl)
   refine Xw ?_ (v := .pointer (some ⟨N, 0 + 0, none⟩)) (hv := fun _ _ => J7 (m := 8) (by decide) (by omega) Tryz.underlying186 (by kernel_rfl) rfl rfl rfl)
   refine Xc ?_ (v := .int .u64 ((Z3 kf (Y0 (bt l) 80) h i) 0)) (K7 D) (hj := by rw [Nat.zero_add]; exact J4 _ _ _ _ (by omega))
   refine Xw ?_ (v := .pointer (some ⟨N, 0 + 1, none⟩)) (hv := fun _ _ => J7 (m := 8) (by decide) (by omega) Tryz.underlying186 (by kernel_rfl) rfl rfl rfl)
   refine Xc ?_ (v := .int .u64 ((Z3 kf (Y0 (bt l) 80) h i) 1)) (K7 D) (hj := by rw [Nat.zero_add]; exact J4 _ _ _ _ (by omega))
   refine Xw ?_ (v := .int .u64 (an ((Z3 kf (Y0 (bt l) 80) h i) 0) ((Z3 kf (Y0 (bt l) 80) h i) 1))) (hv := fun _ _ => J47 rfl rfl rfl)
   refine Xw ?_ (v := .pointer (some ⟨N, 0 + 0, none⟩)) (hv := fun _ _ => J7 (m := 8) (by decide) (by omega) Tryz.underlying186 (by kernel_rfl) rfl rfl rfl)
   refine Xc ?_ (v := .int .u64 ((Z3 kf (Y0 (bt l) 80) h i) 0)) (K7 D) (hj := by rw [Nat.zero_add]; exact J4 _ _ _ _ (by omega))
   refine Xw ?_ (v := .pointer (some ⟨N, 0 + 2, none⟩)) (hv := fun _ _ => J7 (m := 8) (by decide) (by omega) Tryz.underlying186 (by kernel_rfl) rfl rfl rfl)
   refine Xc ?_ (v := .int .u64 ((Z3 kf (Y0 (bt l) 80) h i) 2)) (K7 D) (hj := by rw [Nat.zero_add]; exact J4 _ _ _ _ (by omega))
   refine Xw ?_ (v := .int .u64 (an ((Z3 kf (Y0 (bt l) 80) h i) 0) ((Z3 kf (Y0 (bt l) 80) h i) 2))) (hv := fun _ _ => J47 rfl rfl rfl)
   refine Xw ?_ (v := .int .u64 (xo (an ((Z3 kf (Y0 (bt l) 80) h i) 0) ((Z3 kf (Y0 (bt l) 80) h i) 1)) (an ((Z3 kf (Y0 (bt l) 80) h i) 0) ((Z3 kf (Y0 (bt l) 80) h i) 2)))) (hv := fun _ _ => J0t rfl rfl rfl)
   refine Xw ?_ (v := .pointer (some ⟨N, 0 + 1, none⟩)) (hv := fun _ _ => J7 (m := 8) (by decide) (by omega) Tryz.underlying186 (by kernel_rfl) rfl rfl rfl)
   refine Xc ?_ (v := .int .u64 ((Z3 kf (Y0 (bt l) 80) h i) 1)) (K7 D) (hj := by rw [Nat.zero_add]; exact J4 _ _ _ _ (by omega))
   refine Xw ?_ (v := .pointer (some ⟨N, 0 + 2, none⟩)) (hv := fun _ _ => J7 (m := 8) (by decide) (by omega) Tryz.underlying186 (by kernel_rfl) rfl rfl rfl)
   refine Xc ?_ (v := .int .u64 ((Z3 kf (Y0 (bt l) 80) h i) 2)) (K7 D) (hj := by rw [Nat.zero_add]; exact J4 _ _ _ _ (by omega))
   refine Xw ?_ (v := .int .u64 (an ((Z3 kf (Y0 (bt l) 80) h i) 1) ((Z3 kf (Y0 (bt l) 80) h i) 2))) (hv := fun _ _ => J47 rfl rfl rfl)
   refine Xw ?_ (v := .int .u64 (xo (xo (an ((Z3 kf (Y0 (bt l) 80) h i) 0) ((Z3 kf (Y0 (bt l) 80) h i) 1)) (an ((Z3 kf (Y0 (bt l) 80) h i) 0) ((Z3 kf (Y0 (bt l) 80) h i) 2))) (an ((Z3 kf (Y0 (bt l) 80) h i) 1) ((Z3 kf (Y0 (bt l) 80) h i) 2)))) (hv := fun _ _ => J0t rfl rfl rfl)
   refine Xw ?_ (v := .int .u64 (rU (Z3 kf (Y0 (bt l) 80) h i)))
   refine Xv ?_
   refine Z7 ?_
   intro β γ hE hN hD
   clear hN hD
   simp only [J0e, Act.put, mA, mB, mC, List.drop_succ_cons, List.drop_zero, List.drop_nil, List.length_nil, Nat.add_zero]
   have hO := J0k hE
   replace J := J.o hO
   replace M := M.o hO
   replace R := R.o hO
   replace D := D.o hO
   replace K2 := Sl.off K2 hO f0
   replace G := G.o hO
   clear hO hE β
   refine LN ?_
   go_upto_region 8 with fail
   refine wp_region_lit ?_
   refine Lv ?_
   refine Lv ?_
   refine Lw ?_ (v := .int .u64 (ad (rT kf (Y0 (bt l) 80) i (Z3 kf (Y0 (bt l) 80) h i)) (rU (Z3 kf (Y0 (bt l) 80) h i)))) (hv := J1m rfl rfl rfl)
   refine Lw ?_ (v := .pointer (some ⟨N, 0 + 0, none⟩)) (hv := J7 (m := 8) (by decide) (by omega) Tryz.underlying186 (by kernel_rfl) rfl rfl rfl)
   refine Lg ?_ D (v := .int .u64 ((Z3 kf (Y0 (bt l) 80) h i) 0)) (hj := by rw [Nat.zero_add]; exact J4 _ _ _ _ (by omega))
   refine Lw ?_ (v := .pointer (some ⟨N, 0 + 1, none⟩)) (hv := J7 (m := 8) (by decide) (by omega) Tryz.underlying186 (by kernel_rfl) rfl rfl rfl)
   refine Lg ?_ D (v := .int .u64 ((Z3 kf (Y0 (bt l) 80) h i) 1)) (hj := by rw [Nat.zero_add]; exact J4 _ _ _ _ (by omega))
   refine Lw ?_ (v := .pointer (some ⟨N, 0 + 2, none⟩)) (hv := J7 (m := 8) (by decide) (by omega) Tryz.underlying186 (by kernel_rfl) rfl rfl rfl)
   refine Lg ?_ D (v := .int .u64 ((Z3 kf (Y0 (bt l) 80) h i) 2)) (hj := by rw [Nat.zero_add]; exact J4 _ _ _ _ (by omega))
   refine Lw ?_ (v := .pointer (some ⟨N, 0 + 3, none⟩)) (hv := J7 (m := 8) (by decide) (by omega) Tryz.underlying186 (by kernel_rfl) rfl rfl rfl)
   refine Lg ?_ D (v := .int .u64 ((Z3 kf (Y0 (bt l) 80) h i) 3)) (hj := by rw [Nat.zero_add]; exact J4 _ _ _ _ (by omega))
   refine Lv ?_
   refine Lw ?_ (v := .int .u64 (ad ((Z3 kf (Y0 (bt l) 80) h i) 3) (rT kf (Y0 (bt l) 80) i (Z3 kf (Y0 (bt l) 80) h i)))) (hv := J1m rfl rfl rfl)
   refine Lw ?_ (v := .pointer (some ⟨N, 0 + 4, none⟩)) (hv := J7 (m := 8) (by decide) (by omega) Tryz.underlying186 (by kernel_rfl) rfl rfl rfl)
   refine Lg ?_ D (v := .int .u64 ((Z3 kf (Y0 (bt l) 80) h i) 4)) (hj := by rw [Nat.zero_add]; exact J4 _ _ _ _ (by omega))
   refine Lw ?_ (v := .pointer (some ⟨N, 0 + 5, none⟩)) (hv := J7 (m := 8) (by decide) (by omega) Tryz.underlying186 (by kernel_rfl) rfl rfl rfl)
   refine Lg ?_ D (v := .int .u64 ((Z3 kf (Y0 (bt l) 80) h i) 5)) (hj := by rw [Nat.zero_add]; exact J4 _ _ _ _ (by omega))
   refine Lw ?_ (v := .pointer (some ⟨N, 0 + 6, none⟩)) (hv := J7 (m := 8) (by decide) (by omega) Tryz.underlying186 (by kernel_rfl) rfl rfl rfl)
   refine Lg ?_ D (v := .int .u64 ((Z3 kf (Y0 (bt l) 80) h i) 6)) (hj := by rw [Nat.zero_add]; exact J4 _ _ _ _ (by omega))
   refine Lw ?_ (v := .agg (J0 .u64 8 (Z3 kf (Y0 (bt l) 80) h (i + 1)))) (hv := by first | rfl | (go_simp; rfl))
   refine Lp ?_ D (cells := J0 .u64 8 (Z3 kf (Y0 (bt l) 80) h (i + 1))) (hi := by rw [J2]; kernel_rfl) (hs := by rw [J2, J2]) (h1 := by exact Z0 _ _ _)
   intro α hO h_
   replace D : Blk α N (J0 .u64 8 (Z3 kf (Y0 (bt l) 80) h (i + 1))) 186 := h_
   clear h_
   replace J := J.p hO S
   replace M := M.p hO σ
   replace R := R.p hO κ
   replace K2 := Sl.off K2 hO (f1 τ)
   replace G := G.p hO ν
   clear hO
   refine J9 ?_
   go_wp2
   go_roundw
   case rel => exact ⟨i + 1, by omega, by go_num, G, J, M, R, D, K2⟩
   case measure => simp [intOf]; omega
  obtain rfl : i = 80 := by omega
  go_upto_region 4 with fail
  refine wp_region_lit ?_
  refine Lw ?_ (v := .bool false)
  refine J9 ?_
  go_wp2_with fail
  go_loopw [102] (fun ii wr => ∃ (i : Nat), (i ≤ 8) ∧ (ii = .int .i64 (i : Int)) ∧ Off [] w wr ∧ Blk wr U (J0 .u64 8 (mx h (Z3 kf (Y0 (bt l) 80) h 80) i)) 186 ∧ Blk wr Z (J0 .u64 8 (fun _ => 0)) 186 ∧ Blk wr ε (J0 .u64 80 (Y0 (bt l) 80)) 187 ∧ Blk wr N (J0 .u64 8 (Z3 kf (Y0 (bt l) 80) h 80)) 186 ∧ Sl wr (.slice (some adr) l.length c) l)
   (fun ii _ => 8 - (intOf ii).toNat)
  case atStart => exact ⟨0, Nat.zero_le _, rfl, G, (by rw [Z0z]; exact J), M, R, D, K2⟩
  case round =>
   obtain ⟨i, hi, rfl, G, J, M, R, D, K2⟩ := hrel
   obtain ⟨W9, Y⟩ := J5e G
   subst Y
   by_cases h8 : i < 8
   ·
    go_upto_region 11 with fail
    refine wp_region_lit ?_
    refine Lw ?_ (v := .bool true)
    refine J9 ?_
    go_upto_region 13 with fail
    refine J1a 8 [] (by kernel_rfl) (fun x hx => by cases hx) (by kernel_rfl) ?_
    simp only [List.take_succ_cons, List.take_zero, List.take_nil]
    (try simp only [Act.put, mA, mB, mC])
    refine Xv ?_
    refine Xw ?_ (v := .pointer (some ⟨U, 0 + i, none⟩)) (hv := fun _ _ => J7 (m := 8) (by decide) (by omega) Tryz.underlying186 (by kernel_rfl) rfl rfl rfl)
    refine Xc ?_ (v := .int .u64 ((mx h (Z3 kf (Y0 (bt l) 80) h 80) i) i)) (K7 J) (hj := by rw [Nat.zero_add]; exact J4 _ _ _ _ (by omega))
    refine Xv ?_
    refine Xw ?_ (v := .pointer (some ⟨N, 0 + i, none⟩)) (hv := fun _ _ => J7 (m := 8) (by decide) (by omega) Tryz.underlying186 (by kernel_rfl) rfl rfl rfl)
    refine Xc ?_ (v := .int .u64 ((Z3 kf (Y0 (bt l) 80) h 80) i)) (K7 D) (hj := by rw [Nat.zero_add]; exact J4 _ _ _ _ (by omega))
    refine Xw ?_ (v := .int .u64 (ad ((mx h (Z3 kf (Y0 (bt l) 80) h 80) i) i) ((Z3 kf (Y0 (bt l) 80) h 80) i))) (hv := fun _ _ => J1m rfl rfl rfl)
    refine Xw ?_ (v := .pointer (some ⟨U, 0 + i, none⟩)) (hv := fun _ _ => J7 (m := 8) (by decide) (by omega) Tryz.underlying186 (by kernel_rfl) rfl rfl rfl)
    refine Z7 ?_
    intro β γ hE hN hD
    clear hN hD
    simp only [J0e, Act.put, mA, mB, mC, List.drop_succ_cons, List.drop_zero, List.drop_nil, List.length_nil, Nat.add_zero]
    have hO := J0k hE
    replace J := J.o hO
    replace M := M.o hO
    replace R := R.o hO
    replace D := D.o hO
    replace K2 := Sl.off K2 hO f0
    replace G := G.o hO
    clear hO hE β
    refine J4c (v := .int .u64 (ad ((mx h (Z3 kf (Y0 (bt l) 80) h 80) i) i) ((Z3 kf (Y0 (bt l) 80) h 80) i))) ⟨rfl, rfl⟩ (by rfl) rfl rfl rfl J (by rw [J2, Nat.zero_add]; omega) (by kernel_rfl) ?_
    (try simp only [Act.put, mA, mB, mC])
    intro α hO h_
    rw [Nat.zero_add, V6] at h_
    replace J : Blk α U (J0 .u64 8 (upd (mx h (Z3 kf (Y0 (bt l) 80) h 80) i) i (ad ((mx h (Z3 kf (Y0 (bt l) 80) h 80) i) i) ((Z3 kf (Y0 (bt l) 80) h 80) i)))) 186 := h_
    clear h_
    replace M := M.p hO V.symm
    replace R := R.p hO X.symm
    replace D := D.p hO S.symm
    replace K2 := Sl.off K2 hO (f1 ξ)
    replace G := G.p hO ρ
    clear hO
    refine LN ?_
    go_wp2
    go_roundw
    case rel => exact ⟨i + 1, by omega, by go_num, G, (by rw [← Z0y]; exact J), M, R, D, K2⟩
    case measure => simp [intOf]; omega
   obtain rfl : i = 8 := by omega
   rw [Z5x] at J
   go_upto_region 11 with fail
   refine wp_region_lit ?_
   refine Lw ?_ (v := .bool false)
   refine J9 ?_
   go_upto_region 15 with fail
   refine wp_region_lit ?_
   refine L0A ?_ J
   refine Lp ?_ M (cells := J0 .u64 8 (prs h (bt l))) (hi := by rw [J2]; kernel_rfl) (hs := by rw [J2, J2]) (h1 := by exact Z0 _ _ _)
   intro γ hO h_
   replace M : Blk γ Z (J0 .u64 8 (prs h (bt l))) 186 := h_
   clear h_
   replace G := G.p hO μ
   clear hO
   refine J9 ?_
   go_wp2
   refine bodyPost_ret (Y3 rfl rfl M (by kernel_rfl) (by rw [J2]; kernel_rfl)) rfl ⟨rfl, G.ext⟩
end
end Go.Proofs.YtejkmhgkkibafaaGreatDoor
