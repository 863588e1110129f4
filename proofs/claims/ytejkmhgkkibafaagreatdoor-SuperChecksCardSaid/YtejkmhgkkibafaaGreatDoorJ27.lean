/- Contracts and plain laws that superChecks_holds rests on. Conditions: the variables' cells hold the numbers of the program's text. -/
import Derived.Test.YtejkmhgkkibafaaGreatDoorJ26
import Derived.Test.YtejkmhgkkibafaaGreatDoorGc
open Go.RowKit
set_option maxRecDepth 100000
set_option linter.unusedSimpArgs false
set_option linter.unusedVariables false
namespace Go.Proofs.YtejkmhgkkibafaaGreatDoor
section
set_option maxHeartbeats 1500000
attribute [local irreducible] wpList

theorem V24 (n : Nat) (h1 : 1 ≤ n) (h2 : n ≤ 31) : bits .and .u64 (18446744073709551616 - (n : Int)) 31 = ((32 - n : Nat) : Int) := by
  obtain ⟨m, hm⟩ : ∃ m : Nat, m = 18446744073709551616 - n := ⟨_, rfl⟩
  have e : (18446744073709551616 - (n : Int)) = (m : Int) := by omega
  have G : (BitVec.ofInt 64 31).toNat = 2 ^ 5 - 1 := by decide
  have D : (BitVec.ofInt 64 (m : Int) &&& BitVec.ofInt 64 31).toNat = m % 2 ^ 5 := by
    rw [BitVec.toNat_and, BitVec.toNat_ofInt, G, Nat.and_two_pow_sub_one_eq_mod]
    omega
  rw [e]
  show IntKind.u64.wrap ((BitVec.ofInt 64 (m : Int) &&& BitVec.ofInt 64 31).toNat : Nat) = _
  rw [D, IntKind.wrap_u64]
  omega
def J55 (p : Int) (a b c : Nat) : Int := xo4 (xo4 (rt4 p a) (rt4 p b)) (sr4 p c)
def Z49 (p : Int) (a b c : Nat) : Int := xo4 (xo4 (rt4 p a) (rt4 p b)) (rt4 p c)

theorem Y2n (p : Int) (n : Nat) (h1 : 1 ≤ n) (h2 : n ≤ 31) (w : World) :
  Calls Tryz.prog 184 #[.int .u32 p, .int .i64 (-(n : Int))] w fun e w' => K6 (.int .u32 (rt4 p n)) w w' e := by
 have n0 : (1 : Int) ≤ (n : Int) := by omega
 have n1 : (n : Int) ≤ 31 := by omega
 have ha := V24 n h1 h2
 have D : Off [] w w := Off.refl _ _
 go_enter Tryz.func184, Tryz.ntmps184
 go_upto_region 1 with fail
 refine wp_region_lit ?_
 refine Lv ?_
 refine Lw ?_ (v := .int .u64 (18446744073709551616 - (n : Int))) (hv := by go_simp; (try simp only [IntKind.wrap_u64, IntKind.wrap_i64]); (try omega))
 refine Lw ?_ (v := .int .u64 (((32 - n : Nat) : Int))) (hv := by first | (go_simp; done) | (go_simp; (try rw [ha]); (try omega)))
 refine Lv ?_
 refine J9 ?_
 go_upto_region 2 with fail
 refine wp_region_lit ?_
 refine Lv ?_
 refine Lv ?_
 refine Lw ?_ (v := .int .u32 (sl4 p (32 - n))) (hv := Q84 (n := (32 - n)) (by omega) rfl rfl rfl)
 refine Lv ?_
 refine Lv ?_
 refine Lw ?_ (v := .int .u64 ((n : Int))) (hv := by go_simp; (try simp only [IntKind.wrap_u64, IntKind.wrap_i64]); (try omega))
 refine Lw ?_ (v := .int .u32 (sr4 p n)) (hv := J7q (n := n) (by omega) rfl rfl rfl)
 refine Lw ?_ (v := .int .u32 (oo4 (sl4 p (32 - n)) (sr4 p n))) (hv := Z25 rfl rfl rfl)
 refine Lv ?_
 refine J9 ?_
 go_wp2
 exact bodyPost_ret (v := .int .u32 (oo4 (sl4 p (32 - n)) (sr4 p n))) (by simp only [results, Tryz.results184]; go_simp) rfl ⟨congrArg (fun z => Ending.returned (.int .u32 z)) (Z8q _ _), D.ext⟩
theorem J9x (p : Int) (n : Nat) (h1 : 1 ≤ n) (h2 : n ≤ 31) (w : World) :
  Calls Tryz.prog 178 #[.int .u32 p, .int .i64 (n : Int)] w fun e w' => K6 (.int .u32 (rt4 p n)) w w' e := by
 have n0 : (1 : Int) ≤ (n : Int) := by omega
 have n1 : (n : Int) ≤ 31 := by omega
 have D : Off [] w w := Off.refl _ _
 go_enter Tryz.func178, Tryz.ntmps178
 go_upto_region 1 with fail
 refine wp_region_lit ?_
 refine Lv ?_
 refine Lv ?_
 refine Lw ?_ (v := .int .i64 (-(n : Int))) (hv := by go_simp; (try simp only [IntKind.wrap_u64, IntKind.wrap_i64]); (try omega))
 refine Lr ?_ (Y2n p n h1 h2 w)
 intro W1 hO
 replace D := D.o hO
 clear hO
 refine Lv ?_
 refine J9 ?_
 go_wp2
 exact bodyPost_ret (v := .int .u32 (rt4 p n)) (by simp only [results, Tryz.results178]; go_simp) rfl ⟨rfl, D.ext⟩
theorem Z8r (p : Int) (a b c : Nat) (ha : 1 ≤ a ∧ a ≤ 31) (hb : 1 ≤ b ∧ b ≤ 31) (hc : 1 ≤ c ∧ c ≤ 31) (w : World) :
  Calls Tryz.prog 160 #[.int .u32 p, .int .i64 (a : Int), .int .i64 (b : Int), .int .i64 (c : Int)] w fun e w' => K6 (.int .u32 (Z49 p a b c)) w w' e := by
 have D : Off [] w w := Off.refl _ _
 go_enter Tryz.func160, Tryz.ntmps160
 go_upto_region 1 with fail
 refine wp_region_lit ?_
 refine Lv ?_
 refine Lv ?_
 refine Lr ?_ (J9x p a (by omega) (by omega) w)
 intro W1 hO
 replace D := D.o hO
 clear hO
 refine Lv ?_
 refine Lv ?_
 refine Lr ?_ (J9x p b (by omega) (by omega) W1)
 intro W2 hO
 replace D := D.o hO
 clear hO
 refine Lw ?_ (v := .int .u32 (xo4 (rt4 p a) (rt4 p b))) (hv := J56 rfl rfl rfl)
 refine Lv ?_
 refine Lv ?_
 refine Lr ?_ (J9x p c (by omega) (by omega) W2)
 intro W3 hO
 replace D := D.o hO
 clear hO
 refine Lw ?_ (v := .int .u32 (xo4 (xo4 (rt4 p a) (rt4 p b)) (rt4 p c))) (hv := J56 rfl rfl rfl)
 refine Lv ?_
 refine J9 ?_
 go_wp2
 exact bodyPost_ret (v := .int .u32 (xo4 (xo4 (rt4 p a) (rt4 p b)) (rt4 p c))) (by simp only [results, Tryz.results160]; go_simp) rfl ⟨rfl, D.ext⟩
theorem Q85 (p : Int) (a b c : Nat) (ha : 1 ≤ a ∧ a ≤ 31) (hb : 1 ≤ b ∧ b ≤ 31) (hc : 1 ≤ c ∧ c ≤ 31) (w : World) :
  Calls Tryz.prog 177 #[.int .u32 p, .int .i64 (a : Int), .int .i64 (b : Int), .int .i64 (c : Int)] w fun e w' => K6 (.int .u32 (J55 p a b c)) w w' e := by
 have D : Off [] w w := Off.refl _ _
 go_enter Tryz.func177, Tryz.ntmps177
 go_upto_region 1 with fail
 refine Rx 12 ?_
 refine Xv ?_
 refine Xv ?_
 refine Xf ?_ (fun W hW => J9x p a (by omega) (by omega) W)
 refine Xv ?_
 refine Xv ?_
 refine Xf ?_ (fun W hW => J9x p b (by omega) (by omega) W)
 refine Xw ?_ (v := .int .u32 (xo4 (rt4 p a) (rt4 p b))) (hv := fun _ _ => J56 rfl rfl rfl)
 refine Xv ?_
 refine Xv ?_
 refine Xw ?_ (v := .int .u32 (sr4 p c)) (hv := fun _ _ => J7q (n := c) (by omega) rfl rfl rfl)
 refine Xw ?_ (v := .int .u32 (xo4 (xo4 (rt4 p a) (rt4 p b)) (sr4 p c))) (hv := fun _ _ => J56 rfl rfl rfl)
 refine Xv ?_
 refine Z7 fun W1 hE => ?_
 have hO := J0k hE
 replace D := D.o hO
 clear hO hE
 refine LN ?_
 go_wp2
 exact bodyPost_ret (v := .int .u32 (xo4 (xo4 (rt4 p a) (rt4 p b)) (sr4 p c))) (by simp only [results, Tryz.results177]; go_simp) rfl ⟨rfl, D.ext⟩
end

section
set_option maxHeartbeats 1500000
attribute [local irreducible] wpList

theorem Y2o {w : World} {o : Oper} {a : Act} {x : Operand} {c : UInt8} (ho : o.op = .convert 5 193 x) (hx : a.eval x = .int .u8 (c.toNat : Int)) : (execOp a.eval o).run Tryz.prog w = .ok (.value (.int .u32 (c.toNat : Int))) w := by
  have hc := c.toNat_lt
  have hw : IntKind.wrap .u32 (c.toNat : Int) = (c.toNat : Int) := by rw [IntKind.wrap_u32]; omega
  simp [execOp, ho, hx, convert, run_underlying Tryz.underlying5, run_underlying Tryz.underlying193, Sem.run_bind, Conv.intToInt, hw]
theorem Z4a {w : World} {o : Oper} {a : Act} {x y : Operand} {adr : Addr} {n c : Nat} (hl : 64 ≤ n) (hn : n ≤ c) (ho : o.op = .slice 22 x none (some y) none) (hx : a.eval x = .slice (some adr) n c) (hy : a.eval y = .int .i64 64) : (execOp a.eval o).run Tryz.prog w = .ok (.value (.slice (some adr) 64 c)) w := by
  have G : 64 ≤ c := by omega
  have J : ¬ c = 0 := by omega
  have h1 := J9a
  have D : adr.add 0 = adr := by unfold Addr.add; simp
  cases hq : Tryz.prog.info? 5 with
  | none => simp [hq] at h1
  | some i => simp [execOp, ho, hx, hy, Instr.sliceAt, Instr.slice, Instr.sliceBounds, Instr.sliceBound, asIntOf, run_underlying Tryz.underlying22, Sem.run_bind, sizeOf, typeInfo, hq, G, J, D]; intro h_; omega
def J8y (b : Nat → Int) (i : Nat) : Nat → Int
  | 0 => 0
  | k + 1 => oo4 (sl4 (J8y b i k) 8) (b (4 * i + k))
def sg4 (f : Nat → Int) (i : Nat) : Int := ad4 (ad4 (ad4 (f (i - 16)) (J55 (f (i - 15)) 7 18 3)) (f (i - 7))) (J55 (f (i - 2)) 17 19 10)
def V1 (b : Nat → Int) : Nat → Nat → Int
  | 0 => fun _ => 0
  | i + 1 => upd (V1 b i) i (if i < 16 then J8y b i 4 else sg4 (V1 b i) i)
theorem Y2p {b : Nat → Int} {i : Nat} (h : 16 ≤ i) : upd (V1 b i) i (sg4 (V1 b i) i) = V1 b (i + 1) := by
  show _ = upd (V1 b i) i (if i < 16 then J8y b i 4 else sg4 (V1 b i) i)
  rw [if_neg (by omega)]
theorem Z26 (b : Nat → Int) : ∀ i, i ≤ 16 → ∀ j, V1 b i j = if j < i then J8y b j 4 else 0
  | 0, _, j => by simp [V1]
  | i + 1, h, j => by
    show upd (V1 b i) i (if i < 16 then J8y b i 4 else sg4 (V1 b i) i) j = _
    rw [if_pos (by omega)]
    unfold upd
    by_cases hj : j = i
    · rw [if_pos hj, if_pos (by omega), hj]
    · rw [if_neg hj, Z26 b i (by omega) j]
      by_cases hl : j < i
      · rw [if_pos hl, if_pos (by omega)]
      · rw [if_neg hl, if_neg (by omega)]
def J6o (b : Nat → Int) (n j : Nat) : Int := if j < n / 4 then J8y b j 4 else if j = n / 4 then J8y b j (n % 4) else 0
theorem Z4b (b : Nat → Int) (n : Nat) : upd (J6o b n) (n / 4) (oo4 (sl4 (J6o b n (n / 4)) 8) (b n)) = J6o b (n + 1) := by
  funext j
  have e : J6o b n (n / 4) = J8y b (n / 4) (n % 4) := by unfold J6o; rw [if_neg (by omega), if_pos rfl]
  have hb : b n = b (4 * (n / 4) + n % 4) := by rw [Nat.div_add_mod]
  rw [e, hb]
  show (if j = n / 4 then J8y b (n / 4) (n % 4 + 1) else J6o b n j) = J6o b (n + 1) j
  unfold J6o
  by_cases hm : n % 4 = 3
  · have h1 : (n + 1) / 4 = n / 4 + 1 := by omega
    have h2 : (n + 1) % 4 = 0 := by omega
    rw [h1, h2, hm]
    by_cases hj : j = n / 4
    · rw [if_pos hj, if_pos (by omega), hj]
    rw [if_neg hj]
    by_cases hl : j < n / 4
    · rw [if_pos hl, if_pos (by omega)]
    rw [if_neg hl, if_neg hj, if_neg (by omega)]
    split
    · rfl
    rfl
  have h1 : (n + 1) / 4 = n / 4 := by omega
  have h2 : (n + 1) % 4 = n % 4 + 1 := by omega
  rw [h1, h2]
  by_cases hj : j = n / 4
  · rw [if_pos hj, if_neg (by omega), if_pos hj, hj]
  rw [if_neg hj]
  by_cases hl : j < n / 4
  · rw [if_pos hl, if_pos hl]
  rw [if_neg hl, if_neg hj, if_neg hl, if_neg hj]
theorem Z8s (b : Nat → Int) : J6o b 64 = V1 b 16 := by
  funext j
  rw [Z26 b 16 (Nat.le_refl _) j]
  unfold J6o
  by_cases h : j < 16
  · rw [if_pos (by omega), if_pos h]
  rw [if_neg (by omega), if_neg h]
  split
  · rename_i h2; rw [show 64 % 4 = 0 by rfl]; rfl
  rfl
theorem Z4c (b : Nat → Int) : J6o b 0 = fun _ => 0 := by
  funext j
  unfold J6o
  rw [if_neg (by omega)]
  split <;> rfl

theorem Z4d (l : List UInt8) (adr : Addr) (c : Nat) (hl : 64 ≤ l.length) (hc : l.length ≤ c) (w : World) (hs : Sl w (.slice (some adr) l.length c) l) :
  Calls Tryz.prog 159 #[.slice (some adr) l.length c] w fun e w' => K6 (.agg (J0 .u32 64 (V1 (bt l) 64))) w w' e := by
 have K2 := hs
 have D : Off [] w w := Off.refl _ _
 go_enter Tryz.func159, Tryz.ntmps159
 go_upto_region 0 with fail
 refine wp_region_lit ?_
 refine Ln ?_ (z := J0 .u32 64 (fun _ => 0)) (t := 231)
 intro T W1 X hO h_
 have α := fbn D X
 replace K2 := Sl.off K2 hO f0
 replace D := D.o hO
 have J := h_
 clear hO h_ X
 refine J9 ?_
 go_upto_region 1 with fail
 refine wp_region_lit ?_
 refine Ln ?_ (z := J0 .u32 64 (fun _ => 0)) (t := 231)
 intro M W2 N hO h_
 have Y := bn J N
 have Z := J7a (Sl.lt K2) N
 have U := fbn D N
 replace J := J.o hO
 replace K2 := Sl.off K2 hO f0
 replace D := D.o hO
 have G := h_
 clear hO h_ N
 refine J9 ?_
 go_upto_region 2 with fail
 refine wp_region_lit ?_
 refine Lv ?_
 refine Lw ?_ (v := .slice (some adr) 64 c) (hv := Z4a hl hc rfl rfl rfl)
 refine Lw ?_ (v := .int .i64 64)
 refine Lw ?_ (v := .int .i64 0)
 refine J9 ?_
 go_wp2_with fail
 go_loopw [9] (fun ii wr => ∃ (n : Nat), (n ≤ 64) ∧ (ii = .int .i64 (n : Int)) ∧ Off [] w wr ∧ Blk wr T (J0 .u32 64 (fun _ => 0)) 231 ∧ Blk wr M (J0 .u32 64 (J6o (bt l) n)) 231 ∧ Sl wr (.slice (some adr) l.length c) l)
  (fun ii _ => 64 - (intOf ii).toNat)
 case atStart => exact ⟨0, Nat.zero_le _, rfl, D, J, (by rw [Z4c]; exact G), K2⟩
 case round =>
  obtain ⟨n, hn, rfl, D, J, G, K2⟩ := hrel
  obtain ⟨W3, R⟩ := J5e D
  subst R
  by_cases S : n < 64
  ·
   go_upto_region 3 with fail
   refine wp_region_lit ?_
   refine Lw ?_ (v := .bool true)
   refine J9 ?_
   go_upto_region 5 with fail
   refine Rx 14 ?_
   refine Xv ?_
   refine Xw ?_ (v := .int .i64 (((n / 4 : Nat) : Int))) (hv := fun _ _ => by go_simp; (try simp only [IntKind.wrap_u64, IntKind.wrap_i64]); (try omega))
   refine Xv ?_
   refine Xw ?_ (v := .int .i64 (((n / 4 : Nat) : Int))) (hv := fun _ _ => by go_simp; (try simp only [IntKind.wrap_u64, IntKind.wrap_i64]); (try omega))
   refine Xw ?_ (v := .pointer (some ⟨M, 0 + (n / 4), none⟩)) (hv := fun _ _ => J7 (m := 64) (by decide) (by omega) Tryz.underlying231 (by kernel_rfl) rfl rfl rfl)
   refine Xc ?_ (v := .int .u32 ((J6o (bt l) n) (n / 4))) (K7 G) (hj := by rw [Nat.zero_add]; exact J4 _ _ _ _ (by omega))
   refine Xw ?_ (v := .int .u32 (sl4 ((J6o (bt l) n) (n / 4)) 8)) (hv := fun _ _ => Q84 (n := 8) (by decide) rfl rfl rfl)
   refine Xv ?_
   refine Xv ?_
   refine Xw ?_ (v := .pointer (some (adr.add n))) (hv := fun W hW => Q18 (j := n) (by omega) rfl rfl rfl)
   refine Z5p (by rfl) rfl rfl (fun W hW => J2b (Q70 K2 (J80 (by omega))) hW) (by kernel_rfl) ?_
   (try simp only [Act.put, mA, mB, mC])
   refine Xw ?_ (v := .int .u32 (bt l n)) (hv := fun _ _ => by exact Y2o rfl rfl)
   refine Xw ?_ (v := .int .u32 (oo4 (sl4 ((J6o (bt l) n) (n / 4)) 8) (bt l n))) (hv := fun _ _ => Z25 rfl rfl rfl)
   refine Xw ?_ (v := .pointer (some ⟨M, 0 + (n / 4), none⟩)) (hv := fun _ _ => J7 (m := 64) (by decide) (by omega) Tryz.underlying231 (by kernel_rfl) rfl rfl rfl)
   refine Z7 fun W4 hE => ?_
   have hO := J0k hE
   replace J := J.o hO
   replace G := G.o hO
   replace K2 := Sl.off K2 hO f0
   replace D := D.o hO
   clear hO hE
   refine J4c (v := .int .u32 (oo4 (sl4 ((J6o (bt l) n) (n / 4)) 8) (bt l n))) ⟨rfl, rfl⟩ (by rfl) rfl rfl rfl G (by rw [J2, Nat.zero_add]; omega) (by kernel_rfl) ?_
   (try simp only [Act.put, mA, mB, mC])
   intro W5 hO h_
   rw [Nat.zero_add, V6] at h_
   replace G : Blk W5 M (J0 .u32 64 (upd (J6o (bt l) n) (n / 4) (oo4 (sl4 ((J6o (bt l) n) (n / 4)) 8) (bt l n)))) 231 := h_
   clear h_
   replace J := J.p hO Y
   replace K2 := Sl.off K2 hO (f1 Z)
   replace D := D.p hO U
   clear hO
   refine LN ?_
   go_wp2
   go_roundw
   case rel => exact ⟨n + 1, by omega, by go_num, D, J, (by rw [← Z4b]; exact G), K2⟩
   case measure => simp [intOf]; omega
  obtain rfl : n = 64 := by omega
  rw [Z8s] at G
  go_upto_region 3 with fail
  refine wp_region_lit ?_
  refine Lw ?_ (v := .bool false)
  refine J9 ?_
  go_wp2_with fail
  go_loopw [5] (fun ii wr => ∃ (i : Nat), (16 ≤ i ∧ i ≤ 64) ∧ (ii = .int .i64 (i : Int)) ∧ Off [] w wr ∧ Blk wr T (J0 .u32 64 (fun _ => 0)) 231 ∧ Blk wr M (J0 .u32 64 (V1 (bt l) i)) 231 ∧ Sl wr (.slice (some adr) l.length c) l)
   (fun ii _ => 64 - (intOf ii).toNat)
  case atStart => exact ⟨16, ⟨Nat.le_refl _, by decide⟩, rfl, D, J, G, K2⟩
  case round =>
   obtain ⟨i, ⟨hi, β⟩, rfl, D, J, G, K2⟩ := hrel
   obtain ⟨W4, R⟩ := J5e D
   subst R
   by_cases V : i < 64
   ·
    go_upto_region 8 with fail
    refine wp_region_lit ?_
    refine Lv ?_
    refine Lw ?_ (v := .bool true)
    refine J9 ?_
    go_upto_region 10 with fail
    refine Rx 23 ?_
    refine Xv ?_
    refine Xv ?_
    refine Xw ?_ (v := .int .i64 (((i - 16 : Nat) : Int))) (hv := fun _ _ => by go_simp; (try simp only [IntKind.wrap_u64, IntKind.wrap_i64]); (try omega))
    refine Xw ?_ (v := .pointer (some ⟨M, 0 + (i - 16), none⟩)) (hv := fun _ _ => J7 (m := 64) (by decide) (by omega) Tryz.underlying231 (by kernel_rfl) rfl rfl rfl)
    refine Xc ?_ (v := .int .u32 ((V1 (bt l) i) (i - 16))) (K7 G) (hj := by rw [Nat.zero_add]; exact J4 _ _ _ _ (by omega))
    refine Xv ?_
    refine Xw ?_ (v := .int .i64 (((i - 15 : Nat) : Int))) (hv := fun _ _ => by go_simp; (try simp only [IntKind.wrap_u64, IntKind.wrap_i64]); (try omega))
    refine Xw ?_ (v := .pointer (some ⟨M, 0 + (i - 15), none⟩)) (hv := fun _ _ => J7 (m := 64) (by decide) (by omega) Tryz.underlying231 (by kernel_rfl) rfl rfl rfl)
    refine Xc ?_ (v := .int .u32 ((V1 (bt l) i) (i - 15))) (K7 G) (hj := by rw [Nat.zero_add]; exact J4 _ _ _ _ (by omega))
    refine Xf ?_ (fun W hW => Q85 ((V1 (bt l) i) (i - 15)) 7 18 3 (by decide) (by decide) (by decide) W)
    refine Xw ?_ (v := .int .u32 (ad4 ((V1 (bt l) i) (i - 16)) (J55 ((V1 (bt l) i) (i - 15)) 7 18 3))) (hv := fun _ _ => J3u rfl rfl rfl)
    refine Xv ?_
    refine Xw ?_ (v := .int .i64 (((i - 7 : Nat) : Int))) (hv := fun _ _ => by go_simp; (try simp only [IntKind.wrap_u64, IntKind.wrap_i64]); (try omega))
    refine Xw ?_ (v := .pointer (some ⟨M, 0 + (i - 7), none⟩)) (hv := fun _ _ => J7 (m := 64) (by decide) (by omega) Tryz.underlying231 (by kernel_rfl) rfl rfl rfl)
    refine Xc ?_ (v := .int .u32 ((V1 (bt l) i) (i - 7))) (K7 G) (hj := by rw [Nat.zero_add]; exact J4 _ _ _ _ (by omega))
    refine Xw ?_ (v := .int .u32 (ad4 (ad4 ((V1 (bt l) i) (i - 16)) (J55 ((V1 (bt l) i) (i - 15)) 7 18 3)) ((V1 (bt l) i) (i - 7)))) (hv := fun _ _ => J3u rfl rfl rfl)
    refine Xv ?_
    refine Xw ?_ (v := .int .i64 (((i - 2 : Nat) : Int))) (hv := fun _ _ => by go_simp; (try simp only [IntKind.wrap_u64, IntKind.wrap_i64]); (try omega))
    refine Xw ?_ (v := .pointer (some ⟨M, 0 + (i - 2), none⟩)) (hv := fun _ _ => J7 (m := 64) (by decide) (by omega) Tryz.underlying231 (by kernel_rfl) rfl rfl rfl)
    refine Xc ?_ (v := .int .u32 ((V1 (bt l) i) (i - 2))) (K7 G) (hj := by rw [Nat.zero_add]; exact J4 _ _ _ _ (by omega))
    refine Xf ?_ (fun W hW => Q85 ((V1 (bt l) i) (i - 2)) 17 19 10 (by decide) (by decide) (by decide) W)
    refine Xw ?_ (v := .int .u32 (ad4 (ad4 (ad4 ((V1 (bt l) i) (i - 16)) (J55 ((V1 (bt l) i) (i - 15)) 7 18 3)) ((V1 (bt l) i) (i - 7))) (J55 ((V1 (bt l) i) (i - 2)) 17 19 10))) (hv := fun _ _ => J3u rfl rfl rfl)
    refine Xw ?_ (v := .pointer (some ⟨M, 0 + i, none⟩)) (hv := fun _ _ => J7 (m := 64) (by decide) (by omega) Tryz.underlying231 (by kernel_rfl) rfl rfl rfl)
    refine Z7 fun W5 hE => ?_
    have hO := J0k hE
    replace J := J.o hO
    replace G := G.o hO
    replace K2 := Sl.off K2 hO f0
    replace D := D.o hO
    clear hO hE
    refine J4c (v := .int .u32 (ad4 (ad4 (ad4 ((V1 (bt l) i) (i - 16)) (J55 ((V1 (bt l) i) (i - 15)) 7 18 3)) ((V1 (bt l) i) (i - 7))) (J55 ((V1 (bt l) i) (i - 2)) 17 19 10))) ⟨rfl, rfl⟩ (by rfl) rfl rfl rfl G (by rw [J2, Nat.zero_add]; omega) (by kernel_rfl) ?_
    (try simp only [Act.put, mA, mB, mC])
    intro W6 hO h_
    rw [Nat.zero_add, V6] at h_
    replace G : Blk W6 M (J0 .u32 64 (upd (V1 (bt l) i) i (ad4 (ad4 (ad4 ((V1 (bt l) i) (i - 16)) (J55 ((V1 (bt l) i) (i - 15)) 7 18 3)) ((V1 (bt l) i) (i - 7))) (J55 ((V1 (bt l) i) (i - 2)) 17 19 10)))) 231 := h_
    clear h_
    replace J := J.p hO Y
    replace K2 := Sl.off K2 hO (f1 Z)
    replace D := D.p hO U
    clear hO
    refine LN ?_
    go_wp2
    go_roundw
    case rel => exact ⟨i + 1, ⟨by omega, by omega⟩, by go_num, D, J, (by rw [← Y2p hi]; exact G), K2⟩
    case measure => simp [intOf]; omega
   obtain rfl : i = 64 := by omega
   go_upto_region 8 with fail
   refine wp_region_lit ?_
   refine Lv ?_
   refine Lw ?_ (v := .bool false)
   refine J9 ?_
   go_upto_region 11 with fail
   refine wp_region_lit ?_
   refine L0A ?_ G
   refine LpA ?_ J (k := .u32) (n := 64) (f := V1 (bt l) 64)
   intro W5 hO h_
   replace J : Blk W5 T (J0 .u32 64 (V1 (bt l) 64)) 231 := h_
   clear h_
   replace D := D.p hO α
   clear hO
   refine J9 ?_
   go_wp2
   refine bodyPost_ret (Y3 rfl rfl J (by kernel_rfl) (by rw [J2]; kernel_rfl)) rfl ⟨rfl, D.ext⟩
end

section
set_option maxHeartbeats 1500000
attribute [local irreducible] wpList

def kk4 : List Int := [1116352408, 1899447441, 3049323471, 3921009573, 961987163, 1508970993, 2453635748, 2870763221, 3624381080, 310598401, 607225278, 1426881987, 1925078388, 2162078206, 2614888103, 3248222580, 3835390401, 4022224774, 264347078, 604807628, 770255983, 1249150122, 1555081692, 1996064986, 2554220882, 2821834349, 2952996808, 3210313671, 3336571891, 3584528711, 113926993, 338241895, 666307205, 773529912, 1294757372, 1396182291, 1695183700, 1986661051, 2177026350, 2456956037, 2730485921, 2820302411, 3259730800, 3345764771, 3516065817, 3600352804, 4094571909, 275423344, 430227734, 506948616, 659060556, 883997877, 958139571, 1322822218, 1537002063, 1747873779, 1955562222, 2024104815, 2227730452, 2361852424, 2428436474, 2756734187, 3204031479, 3329325298]
def hh4 : List Int := [1779033703, 3144134277, 1013904242, 2773480762, 1359893119, 2600822924, 528734635, 1541459225]
def kf4 (i : Nat) : Int := kk4.getD i 0
def hf4 (i : Nat) : Int := hh4.getD i 0
def GS4 (w : World) : Prop := Rd w 11 (J0 .u32 64 kf4) ∧ Rd w 4 (J0 .u32 8 hf4)
theorem J2j {w W : World} (h : GS4 w) (e : Ext w W) : GS4 W := ⟨h.1.ext e, h.2.ext e⟩
def rT4 (k w : Nat → Int) (i : Nat) (v : Nat → Int) : Int := ad4 (ad4 (ad4 (ad4 (v 7) (Z49 (v 4) 6 11 25)) (xo4 (an4 (v 4) (v 5)) (an4 (nt4 (v 4)) (v 6)))) (k i)) (w i)
def rU4 (v : Nat → Int) : Int := ad4 (Z49 (v 0) 2 13 22) (xo4 (xo4 (an4 (v 0) (v 1)) (an4 (v 0) (v 2))) (an4 (v 1) (v 2)))
def V4e (k w : Nat → Int) (i : Nat) (v : Nat → Int) : Nat → Int
  | 0 => ad4 (rT4 k w i v) (rU4 v)
  | 1 => v 0
  | 2 => v 1
  | 3 => v 2
  | 4 => ad4 (v 3) (rT4 k w i v)
  | 5 => v 4
  | 6 => v 5
  | 7 => v 6
  | _ => 0
def V3 (k w v : Nat → Int) : Nat → Nat → Int
  | 0 => v
  | i + 1 => V4e k w i (V3 k w v i)
def J6p (h b : Nat → Int) (j : Nat) : Int := ad4 (h j) (V3 kf4 (V1 b 64) h 64 j)
def mx4 (h v : Nat → Int) (i j : Nat) : Int := if j < i then ad4 (h j) (v j) else h j
theorem Z8t (h v : Nat → Int) (i : Nat) : upd (mx4 h v i) i (ad4 (mx4 h v i i) (v i)) = mx4 h v (i + 1) := by
  funext j
  unfold upd mx4
  by_cases hj : j = i
  · subst hj; rw [if_pos rfl, if_neg (by omega), if_pos (by omega)]
  rw [if_neg hj]
  by_cases hl : j < i
  · rw [if_pos hl, if_pos (by omega)]
  rw [if_neg hl, if_neg (by omega)]
theorem Z8u (h v : Nat → Int) : mx4 h v 0 = h := by funext j; unfold mx4; rw [if_neg (by omega)]
theorem Y2q (h b : Nat → Int) : J0 .u32 8 (mx4 h (V3 kf4 (V1 b 64) h 64) 8) = J0 .u32 8 (J6p h b) := K8 _ _ _ _ fun j hj => by unfold mx4 J6p; rw [if_pos hj]

theorem Z8v (h : Nat → Int) (l : List UInt8) (adr : Addr) (c : Nat) (hl : 64 ≤ l.length) (hlc : l.length ≤ c) (w : World) (hs : Sl w (.slice (some adr) l.length c) l) (hG : GS4 w) :
  Calls Tryz.prog 128 #[.agg (J0 .u32 8 h), .slice (some adr) l.length c] w fun e w' => K6 (.agg (J0 .u32 8 (J6p h (bt l)))) w w' e := by
 have HG := Lib.hid hG
 clear hG
 have K2 := hs
 have G : Off [] w w := Off.refl _ _
 go_enter Tryz.func128, Tryz.ntmps128
 go_upto_region 0 with fail
 refine wp_region_lit ?_
 refine Ln ?_ (z := J0 .u32 8 h) (t := 194)
 intro U W1 γ hO h_
 have ν := J7a (Sl.lt K2) γ
 have ξ := fbn G γ
 replace K2 := Sl.off K2 hO f0
 replace G := G.o hO
 have J := h_
 clear hO h_ γ
 refine Ln ?_ (z := J0 .u32 8 (fun _ => 0)) (t := 194)
 intro Z W2 ε hO h_
 have V := bn J ε
 have κ := fbn G ε
 replace J := J.o hO
 replace K2 := Sl.off K2 hO f0
 replace G := G.o hO
 have M := h_
 clear hO h_ ε
 refine J9 ?_
 go_upto_region 1 with fail
 refine wp_region_lit ?_
 refine Lv ?_
 refine Lr ?_ (Z4d l adr c hl hlc W2 K2)
 intro W3 hO
 replace J := J.o hO
 replace M := M.o hO
 replace K2 := Sl.off K2 hO f0
 replace G := G.o hO
 clear hO
 refine LnA ?_ (z := J0 .u32 64 (fun _ => 0)) (t := 231) (k := .u32) (n := 64) (f := V1 (bt l) 64)
 intro δ W5 ζ hO h_
 have X := bn J ζ
 replace J := J.o hO
 replace M := M.o hO
 replace K2 := Sl.off K2 hO f0
 replace G := G.o hO
 have N := h_
 clear hO h_ ζ
 refine J9 ?_
 go_upto_region 2 with fail
 refine wp_region_lit ?_
 refine L0A ?_ J
 refine LnA ?_ (z := J0 .u32 8 (fun _ => 0)) (t := 194) (k := .u32) (n := 8) (f := h)
 intro R W7 T hO h_
 have S := bn J T
 have ρ := bn M T
 have θ := bn N T
 have σ := J7a (Sl.lt K2) T
 have μ := fbn G T
 replace J := J.o hO
 replace M := M.o hO
 replace N := N.o hO
 replace K2 := Sl.off K2 hO f0
 replace G := G.o hO
 have D := h_
 clear hO h_ T
 refine J9 ?_
 go_wp2_with fail
 go_loopw [14] (fun ii wr => ∃ (i : Nat), (i ≤ 64) ∧ (ii = .int .i64 (i : Int)) ∧ Off [] w wr ∧ Blk wr U (J0 .u32 8 h) 194 ∧ Blk wr Z (J0 .u32 8 (fun _ => 0)) 194 ∧ Blk wr δ (J0 .u32 64 (V1 (bt l) 64)) 231 ∧ Blk wr R (J0 .u32 8 (V3 kf4 (V1 (bt l) 64) h i)) 194 ∧ Sl wr (.slice (some adr) l.length c) l)
  (fun ii _ => 64 - (intOf ii).toNat)
 case atStart => exact ⟨0, Nat.zero_le _, rfl, G, J, M, N, D, K2⟩
 case round =>
  obtain ⟨i, hi, rfl, G, J, M, N, D, K2⟩ := hrel
  obtain ⟨W8, Y⟩ := J5e G
  subst Y
  by_cases η : i < 64
  ·
   go_upto_region 4 with fail
   refine wp_region_lit ?_
   refine Lw ?_ (v := .bool true)
   refine J9 ?_
   go_upto_region 6 with fail
   refine Rx 28 ?_
   refine Xw ?_ (v := .pointer (some ⟨R, 0 + 7, none⟩)) (hv := fun _ _ => J7 (m := 8) (by decide) (by omega) Tryz.underlying194 (by kernel_rfl) rfl rfl rfl)
   refine Xc ?_ (v := .int .u32 ((V3 kf4 (V1 (bt l) 64) h i) 7)) (K7 D) (hj := by rw [Nat.zero_add]; exact J4 _ _ _ _ (by omega))
   refine Xw ?_ (v := .pointer (some ⟨R, 0 + 4, none⟩)) (hv := fun _ _ => J7 (m := 8) (by decide) (by omega) Tryz.underlying194 (by kernel_rfl) rfl rfl rfl)
   refine Xc ?_ (v := .int .u32 ((V3 kf4 (V1 (bt l) 64) h i) 4)) (K7 D) (hj := by rw [Nat.zero_add]; exact J4 _ _ _ _ (by omega))
   refine Xf ?_ (fun W hW => Z8r ((V3 kf4 (V1 (bt l) 64) h i) 4) 6 11 25 (by decide) (by decide) (by decide) W)
   refine Xw ?_ (v := .int .u32 (ad4 ((V3 kf4 (V1 (bt l) 64) h i) 7) (Z49 ((V3 kf4 (V1 (bt l) 64) h i) 4) 6 11 25))) (hv := fun _ _ => J3u rfl rfl rfl)
   refine Xw ?_ (v := .pointer (some ⟨R, 0 + 4, none⟩)) (hv := fun _ _ => J7 (m := 8) (by decide) (by omega) Tryz.underlying194 (by kernel_rfl) rfl rfl rfl)
   refine Xc ?_ (v := .int .u32 ((V3 kf4 (V1 (bt l) 64) h i) 4)) (K7 D) (hj := by rw [Nat.zero_add]; exact J4 _ _ _ _ (by omega))
   refine Xw ?_ (v := .pointer (some ⟨R, 0 + 5, none⟩)) (hv := fun _ _ => J7 (m := 8) (by decide) (by omega) Tryz.underlying194 (by kernel_rfl) rfl rfl rfl)
   refine Xc ?_ (v := .int .u32 ((V3 kf4 (V1 (bt l) 64) h i) 5)) (K7 D) (hj := by rw [Nat.zero_add]; exact J4 _ _ _ _ (by omega))
   refine Xw ?_ (v := .int .u32 (an4 ((V3 kf4 (V1 (bt l) 64) h i) 4) ((V3 kf4 (V1 (bt l) 64) h i) 5))) (hv := fun _ _ => J7r rfl rfl rfl)
   refine Xw ?_ (v := .pointer (some ⟨R, 0 + 4, none⟩)) (hv := fun _ _ => J7 (m := 8) (by decide) (by omega) Tryz.underlying194 (by kernel_rfl) rfl rfl rfl)
   refine Xc ?_ (v := .int .u32 ((V3 kf4 (V1 (bt l) 64) h i) 4)) (K7 D) (hj := by rw [Nat.zero_add]; exact J4 _ _ _ _ (by omega))
   refine Xw ?_ (v := .int .u32 (nt4 ((V3 kf4 (V1 (bt l) 64) h i) 4))) (hv := fun _ _ => Z8w rfl rfl)
   refine Xw ?_ (v := .pointer (some ⟨R, 0 + 6, none⟩)) (hv := fun _ _ => J7 (m := 8) (by decide) (by omega) Tryz.underlying194 (by kernel_rfl) rfl rfl rfl)
   refine Xc ?_ (v := .int .u32 ((V3 kf4 (V1 (bt l) 64) h i) 6)) (K7 D) (hj := by rw [Nat.zero_add]; exact J4 _ _ _ _ (by omega))
   refine Xw ?_ (v := .int .u32 (an4 (nt4 ((V3 kf4 (V1 (bt l) 64) h i) 4)) ((V3 kf4 (V1 (bt l) 64) h i) 6))) (hv := fun _ _ => J7r rfl rfl rfl)
   refine Xw ?_ (v := .int .u32 (xo4 (an4 ((V3 kf4 (V1 (bt l) 64) h i) 4) ((V3 kf4 (V1 (bt l) 64) h i) 5)) (an4 (nt4 ((V3 kf4 (V1 (bt l) 64) h i) 4)) ((V3 kf4 (V1 (bt l) 64) h i) 6)))) (hv := fun _ _ => J56 rfl rfl rfl)
   refine Xw ?_ (v := .int .u32 (ad4 (ad4 ((V3 kf4 (V1 (bt l) 64) h i) 7) (Z49 ((V3 kf4 (V1 (bt l) 64) h i) 4) 6 11 25)) (xo4 (an4 ((V3 kf4 (V1 (bt l) 64) h i) 4) ((V3 kf4 (V1 (bt l) 64) h i) 5)) (an4 (nt4 ((V3 kf4 (V1 (bt l) 64) h i) 4)) ((V3 kf4 (V1 (bt l) 64) h i) 6))))) (hv := fun _ _ => J3u rfl rfl rfl)
   refine Xv ?_
   refine Xw ?_ (v := .pointer (some ⟨11, 0 + i, none⟩)) (hv := fun _ _ => J7 (m := 64) (by decide) (by omega) Tryz.underlying231 (by kernel_rfl) rfl rfl rfl)
   refine Xc ?_ (v := .int .u32 (kf4 i)) ((J2j HG.out G.ext).1) (hj := by rw [Nat.zero_add]; exact J4 _ _ _ _ (by omega))
   refine Xw ?_ (v := .int .u32 (ad4 (ad4 (ad4 ((V3 kf4 (V1 (bt l) 64) h i) 7) (Z49 ((V3 kf4 (V1 (bt l) 64) h i) 4) 6 11 25)) (xo4 (an4 ((V3 kf4 (V1 (bt l) 64) h i) 4) ((V3 kf4 (V1 (bt l) 64) h i) 5)) (an4 (nt4 ((V3 kf4 (V1 (bt l) 64) h i) 4)) ((V3 kf4 (V1 (bt l) 64) h i) 6)))) (kf4 i))) (hv := fun _ _ => J3u rfl rfl rfl)
   refine Xv ?_
   refine Xw ?_ (v := .pointer (some ⟨δ, 0 + i, none⟩)) (hv := fun _ _ => J7 (m := 64) (by decide) (by omega) Tryz.underlying231 (by kernel_rfl) rfl rfl rfl)
   refine Xc ?_ (v := .int .u32 ((V1 (bt l) 64) i)) (K7 N) (hj := by rw [Nat.zero_add]; exact J4 _ _ _ _ (by omega))
   refine Xw ?_ (v := .int .u32 (rT4 kf4 (V1 (bt l) 64) i (V3 kf4 (V1 (bt l) 64) h i)))
   refine Xv ?_
   refine Z7 fun W9 hE => ?_
   have hO := J0k hE
   replace J := J.o hO
   replace M := M.o hO
   replace N := N.o hO
   replace D := D.o hO
   replace K2 := Sl.off K2 hO f0
   replace G := G.o hO
   clear hO hE
   refine LN ?_
   go_upto_region 7 with fail
   refine Rx 22 ?_
   refine Xw ?_ (v := .pointer (some ⟨R, 0 + 0, none⟩)) (hv := fun _ _ => J7 (m := 8) (by decide) (by omega) Tryz.underlying194 (by kernel_rfl) rfl rfl rfl)
   refine Xc ?_ (v := .int .u32 ((V3 kf4 (V1 (bt l) 64) h i) 0)) (K7 D) (hj := by rw [Nat.zero_add]; exact J4 _ _ _ _ (by omega))
   refine Xf ?_ (fun W hW => Z8r ((V3 kf4 (V1 (bt l) 64) h i) 0) 2 13 22 (by decide) (by decide) (by decide) W)
   refine Xw ?_ (v := .pointer (some ⟨R, 0 + 0, none⟩)) (hv := fun _ _ => J7 (m := 8) (by decide) (by omega) Tryz.underlying194 (by kernel_rfl) rfl rfl rfl)
   refine Xc ?_ (v := .int .u32 ((V3 kf4 (V1 (bt l) 64) h i) 0)) (K7 D) (hj := by rw [Nat.zero_add]; exact J4 _ _ _ _ (by omega))
   refine Xw ?_ (v := .pointer (some ⟨R, 0 + 1, none⟩)) (hv := fun _ _ => J7 (m := 8) (by decide) (by omega) Tryz.underlying194 (by kernel_rfl) rfl rfl rfl)
   refine Xc ?_ (v := .int .u32 ((V3 kf4 (V1 (bt l) 64) h i) 1)) (K7 D) (hj := by rw [Nat.zero_add]; exact J4 _ _ _ _ (by omega))
   refine Xw ?_ (v := .int .u32 (an4 ((V3 kf4 (V1 (bt l) 64) h i) 0) ((V3 kf4 (V1 (bt l) 64) h i) 1))) (hv := fun _ _ => J7r rfl rfl rfl)
   refine Xw ?_ (v := .pointer (some ⟨R, 0 + 0, none⟩)) (hv := fun _ _ => J7 (m := 8) (by decide) (by omega) Tryz.underlying194 (by kernel_rfl) rfl rfl rfl)
   refine Xc ?_ (v := .int .u32 ((V3 kf4 (V1 (bt l) 64) h i) 0)) (K7 D) (hj := by rw [Nat.zero_add]; exact J4 _ _ _ _ (by omega))
   refine Xw ?_ (v := .pointer (some ⟨R, 0 + 2, none⟩)) (hv := fun _ _ => J7 (m := 8) (by decide) (by omega) Tryz.underlying194 (by kernel_rfl) rfl rfl rfl)
   refine Xc ?_ (v := .int .u32 ((V3 kf4 (V1 (bt l) 64) h i) 2)) (K7 D) (hj := by rw [Nat.zero_add]; exact J4 _ _ _ _ (by omega))
   refine Xw ?_ (v := .int .u32 (an4 ((V3 kf4 (V1 (bt l) 64) h i) 0) ((V3 kf4 (V1 (bt l) 64) h i) 2))) (hv := fun _ _ => J7r rfl rfl rfl)
   refine Xw ?_ (v := .int .u32 (xo4 (an4 ((V3 kf4 (V1 (bt l) 64) h i) 0) ((V3 kf4 (V1 (bt l) 64) h i) 1)) (an4 ((V3 kf4 (V1 (bt l) 64) h i) 0) ((V3 kf4 (V1 (bt l) 64) h i) 2)))) (hv := fun _ _ => J56 rfl rfl rfl)
   refine Xw ?_ (v := .pointer (some ⟨R, 0 + 1, none⟩)) (hv := fun _ _ => J7 (m := 8) (by decide) (by omega) Tryz.underlying194 (by kernel_rfl) rfl rfl rfl)
   refine Xc ?_ (v := .int .u32 ((V3 kf4 (V1 (bt l) 64) h i) 1)) (K7 D) (hj := by rw [Nat.zero_add]; exact J4 _ _ _ _ (by omega))
   refine Xw ?_ (v := .pointer (some ⟨R, 0 + 2, none⟩)) (hv := fun _ _ => J7 (m := 8) (by decide) (by omega) Tryz.underlying194 (by kernel_rfl) rfl rfl rfl)
   refine Xc ?_ (v := .int .u32 ((V3 kf4 (V1 (bt l) 64) h i) 2)) (K7 D) (hj := by rw [Nat.zero_add]; exact J4 _ _ _ _ (by omega))
   refine Xw ?_ (v := .int .u32 (an4 ((V3 kf4 (V1 (bt l) 64) h i) 1) ((V3 kf4 (V1 (bt l) 64) h i) 2))) (hv := fun _ _ => J7r rfl rfl rfl)
   refine Xw ?_ (v := .int .u32 (xo4 (xo4 (an4 ((V3 kf4 (V1 (bt l) 64) h i) 0) ((V3 kf4 (V1 (bt l) 64) h i) 1)) (an4 ((V3 kf4 (V1 (bt l) 64) h i) 0) ((V3 kf4 (V1 (bt l) 64) h i) 2))) (an4 ((V3 kf4 (V1 (bt l) 64) h i) 1) ((V3 kf4 (V1 (bt l) 64) h i) 2)))) (hv := fun _ _ => J56 rfl rfl rfl)
   refine Xw ?_ (v := .int .u32 (rU4 (V3 kf4 (V1 (bt l) 64) h i)))
   refine Xv ?_
   refine Z7 fun β hE => ?_
   have hO := J0k hE
   replace J := J.o hO
   replace M := M.o hO
   replace N := N.o hO
   replace D := D.o hO
   replace K2 := Sl.off K2 hO f0
   replace G := G.o hO
   clear hO hE
   refine LN ?_
   go_upto_region 8 with fail
   refine wp_region_lit ?_
   refine Lv ?_
   refine Lv ?_
   refine Lw ?_ (v := .int .u32 (ad4 (rT4 kf4 (V1 (bt l) 64) i (V3 kf4 (V1 (bt l) 64) h i)) (rU4 (V3 kf4 (V1 (bt l) 64) h i)))) (hv := J3u rfl rfl rfl)
   refine Lw ?_ (v := .pointer (some ⟨R, 0 + 0, none⟩)) (hv := J7 (m := 8) (by decide) (by omega) Tryz.underlying194 (by kernel_rfl) rfl rfl rfl)
   refine Lg ?_ D (v := .int .u32 ((V3 kf4 (V1 (bt l) 64) h i) 0)) (hj := by rw [Nat.zero_add]; exact J4 _ _ _ _ (by omega))
   refine Lw ?_ (v := .pointer (some ⟨R, 0 + 1, none⟩)) (hv := J7 (m := 8) (by decide) (by omega) Tryz.underlying194 (by kernel_rfl) rfl rfl rfl)
   refine Lg ?_ D (v := .int .u32 ((V3 kf4 (V1 (bt l) 64) h i) 1)) (hj := by rw [Nat.zero_add]; exact J4 _ _ _ _ (by omega))
   refine Lw ?_ (v := .pointer (some ⟨R, 0 + 2, none⟩)) (hv := J7 (m := 8) (by decide) (by omega) Tryz.underlying194 (by kernel_rfl) rfl rfl rfl)
   refine Lg ?_ D (v := .int .u32 ((V3 kf4 (V1 (bt l) 64) h i) 2)) (hj := by rw [Nat.zero_add]; exact J4 _ _ _ _ (by omega))
   refine Lw ?_ (v := .pointer (some ⟨R, 0 + 3, none⟩)) (hv := J7 (m := 8) (by decide) (by omega) Tryz.underlying194 (by kernel_rfl) rfl rfl rfl)
   refine Lg ?_ D (v := .int .u32 ((V3 kf4 (V1 (bt l) 64) h i) 3)) (hj := by rw [Nat.zero_add]; exact J4 _ _ _ _ (by omega))
   refine Lv ?_
   refine Lw ?_ (v := .int .u32 (ad4 ((V3 kf4 (V1 (bt l) 64) h i) 3) (rT4 kf4 (V1 (bt l) 64) i (V3 kf4 (V1 (bt l) 64) h i)))) (hv := J3u rfl rfl rfl)
   refine Lw ?_ (v := .pointer (some ⟨R, 0 + 4, none⟩)) (hv := J7 (m := 8) (by decide) (by omega) Tryz.underlying194 (by kernel_rfl) rfl rfl rfl)
   refine Lg ?_ D (v := .int .u32 ((V3 kf4 (V1 (bt l) 64) h i) 4)) (hj := by rw [Nat.zero_add]; exact J4 _ _ _ _ (by omega))
   refine Lw ?_ (v := .pointer (some ⟨R, 0 + 5, none⟩)) (hv := J7 (m := 8) (by decide) (by omega) Tryz.underlying194 (by kernel_rfl) rfl rfl rfl)
   refine Lg ?_ D (v := .int .u32 ((V3 kf4 (V1 (bt l) 64) h i) 5)) (hj := by rw [Nat.zero_add]; exact J4 _ _ _ _ (by omega))
   refine Lw ?_ (v := .pointer (some ⟨R, 0 + 6, none⟩)) (hv := J7 (m := 8) (by decide) (by omega) Tryz.underlying194 (by kernel_rfl) rfl rfl rfl)
   refine Lg ?_ D (v := .int .u32 ((V3 kf4 (V1 (bt l) 64) h i) 6)) (hj := by rw [Nat.zero_add]; exact J4 _ _ _ _ (by omega))
   refine Lw ?_ (v := .agg (J0 .u32 8 (V3 kf4 (V1 (bt l) 64) h (i + 1)))) (hv := by first | rfl | (go_simp; rfl))
   refine LpA ?_ D (k := .u32) (n := 8) (f := V3 kf4 (V1 (bt l) 64) h (i + 1))
   intro α hO h_
   replace D : Blk α R (J0 .u32 8 (V3 kf4 (V1 (bt l) 64) h (i + 1))) 194 := h_
   clear h_
   replace J := J.p hO S
   replace M := M.p hO ρ
   replace N := N.p hO θ
   replace K2 := Sl.off K2 hO (f1 σ)
   replace G := G.p hO μ
   clear hO
   refine J9 ?_
   go_wp2
   go_roundw
   case rel => exact ⟨i + 1, by omega, by go_num, G, J, M, N, D, K2⟩
   case measure => simp [intOf]; omega
  obtain rfl : i = 64 := by omega
  go_upto_region 4 with fail
  refine wp_region_lit ?_
  refine Lw ?_ (v := .bool false)
  refine J9 ?_
  go_wp2_with fail
  go_loopw [86] (fun ii wr => ∃ (i : Nat), (i ≤ 8) ∧ (ii = .int .i64 (i : Int)) ∧ Off [] w wr ∧ Blk wr U (J0 .u32 8 (mx4 h (V3 kf4 (V1 (bt l) 64) h 64) i)) 194 ∧ Blk wr Z (J0 .u32 8 (fun _ => 0)) 194 ∧ Blk wr δ (J0 .u32 64 (V1 (bt l) 64)) 231 ∧ Blk wr R (J0 .u32 8 (V3 kf4 (V1 (bt l) 64) h 64)) 194 ∧ Sl wr (.slice (some adr) l.length c) l)
   (fun ii _ => 8 - (intOf ii).toNat)
  case atStart => exact ⟨0, Nat.zero_le _, rfl, G, (by rw [Z8u]; exact J), M, N, D, K2⟩
  case round =>
   obtain ⟨i, hi, rfl, G, J, M, N, D, K2⟩ := hrel
   obtain ⟨W9, Y⟩ := J5e G
   subst Y
   by_cases h8 : i < 8
   ·
    go_upto_region 11 with fail
    refine wp_region_lit ?_
    refine Lw ?_ (v := .bool true)
    refine J9 ?_
    go_upto_region 13 with fail
    refine Rx 8 ?_
    refine Xv ?_
    refine Xw ?_ (v := .pointer (some ⟨U, 0 + i, none⟩)) (hv := fun _ _ => J7 (m := 8) (by decide) (by omega) Tryz.underlying194 (by kernel_rfl) rfl rfl rfl)
    refine Xc ?_ (v := .int .u32 ((mx4 h (V3 kf4 (V1 (bt l) 64) h 64) i) i)) (K7 J) (hj := by rw [Nat.zero_add]; exact J4 _ _ _ _ (by omega))
    refine Xv ?_
    refine Xw ?_ (v := .pointer (some ⟨R, 0 + i, none⟩)) (hv := fun _ _ => J7 (m := 8) (by decide) (by omega) Tryz.underlying194 (by kernel_rfl) rfl rfl rfl)
    refine Xc ?_ (v := .int .u32 ((V3 kf4 (V1 (bt l) 64) h 64) i)) (K7 D) (hj := by rw [Nat.zero_add]; exact J4 _ _ _ _ (by omega))
    refine Xw ?_ (v := .int .u32 (ad4 ((mx4 h (V3 kf4 (V1 (bt l) 64) h 64) i) i) ((V3 kf4 (V1 (bt l) 64) h 64) i))) (hv := fun _ _ => J3u rfl rfl rfl)
    refine Xw ?_ (v := .pointer (some ⟨U, 0 + i, none⟩)) (hv := fun _ _ => J7 (m := 8) (by decide) (by omega) Tryz.underlying194 (by kernel_rfl) rfl rfl rfl)
    refine Z7 fun β hE => ?_
    have hO := J0k hE
    replace J := J.o hO
    replace M := M.o hO
    replace N := N.o hO
    replace D := D.o hO
    replace K2 := Sl.off K2 hO f0
    replace G := G.o hO
    clear hO hE
    refine J4c (v := .int .u32 (ad4 ((mx4 h (V3 kf4 (V1 (bt l) 64) h 64) i) i) ((V3 kf4 (V1 (bt l) 64) h 64) i))) ⟨rfl, rfl⟩ (by rfl) rfl rfl rfl J (by rw [J2, Nat.zero_add]; omega) (by kernel_rfl) ?_
    (try simp only [Act.put, mA, mB, mC])
    intro α hO h_
    rw [Nat.zero_add, V6] at h_
    replace J : Blk α U (J0 .u32 8 (upd (mx4 h (V3 kf4 (V1 (bt l) 64) h 64) i) i (ad4 ((mx4 h (V3 kf4 (V1 (bt l) 64) h 64) i) i) ((V3 kf4 (V1 (bt l) 64) h 64) i)))) 194 := h_
    clear h_
    replace M := M.p hO V.symm
    replace N := N.p hO X.symm
    replace D := D.p hO S.symm
    replace K2 := Sl.off K2 hO (f1 ν)
    replace G := G.p hO ξ
    clear hO
    refine LN ?_
    go_wp2
    go_roundw
    case rel => exact ⟨i + 1, by omega, by go_num, G, (by rw [← Z8t]; exact J), M, N, D, K2⟩
    case measure => simp [intOf]; omega
   obtain rfl : i = 8 := by omega
   rw [Y2q] at J
   go_upto_region 11 with fail
   refine wp_region_lit ?_
   refine Lw ?_ (v := .bool false)
   refine J9 ?_
   go_upto_region 15 with fail
   refine wp_region_lit ?_
   refine L0A ?_ J
   refine LpA ?_ M (k := .u32) (n := 8) (f := J6p h (bt l))
   intro β hO h_
   replace M : Blk β Z (J0 .u32 8 (J6p h (bt l))) 194 := h_
   clear h_
   replace G := G.p hO κ
   clear hO
   refine J9 ?_
   go_wp2
   refine bodyPost_ret (Y3 rfl rfl M (by kernel_rfl) (by rw [J2]; kernel_rfl)) rfl ⟨rfl, G.ext⟩
end
end Go.Proofs.YtejkmhgkkibafaaGreatDoor
