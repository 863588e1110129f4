/- Contracts and plain laws that superChecks_holds rests on. Conditions: the variables' cells hold the numbers of the program's text. -/
import Derived.Test.YtejkmhgkkibafaaGreatDoorJ26
import Derived.Test.YtejkmhgkkibafaaGreatDoorGc
open Go.RowKit
set_option maxRecDepth 100000
set_option linter.unusedSimpArgs false
set_option linter.unusedVariables false
namespace Go.Proofs.YtejkmhgkkibafaaGreatDoor
section
set_option maxHeartbeats 1500000
attribute [local irreducible] wpList

theorem V1k (n : Nat) (h1 : 1 ≤ n) (h2 : n ≤ 31) : bits .and .u64 (18446744073709551616 - (n : Int)) 31 = ((32 - n : Nat) : Int) := by
  obtain ⟨m, hm⟩ : ∃ m : Nat, m = 18446744073709551616 - n := ⟨_, rfl⟩
  have e : (18446744073709551616 - (n : Int)) = (m : Int) := by omega
  have D : (BitVec.ofInt 64 31).toNat = 2 ^ 5 - 1 := by decide
  have G : (BitVec.ofInt 64 (m : Int) &&& BitVec.ofInt 64 31).toNat = m % 2 ^ 5 := by
    rw [BitVec.toNat_and, BitVec.toNat_ofInt, D, Nat.and_two_pow_sub_one_eq_mod]
    omega
  rw [e]
  show IntKind.u64.wrap ((BitVec.ofInt 64 (m : Int) &&& BitVec.ofInt 64 31).toNat : Nat) = _
  rw [G, IntKind.wrap_u64]
  omega
def J4v (p : Int) (a b c : Nat) : Int := xo4 (xo4 (rt4 p a) (rt4 p b)) (sr4 p c)
def Z3w (p : Int) (a b c : Nat) : Int := xo4 (xo4 (rt4 p a) (rt4 p b)) (rt4 p c)

theorem Y23 (p : Int) (n : Nat) (h1 : 1 ≤ n) (h2 : n ≤ 31) (w : World) :
  Calls Tryz.prog 184 #[.int .u32 p, .int .i64 (-(n : Int))] w fun e w' => K7 (.int .u32 (rt4 p n)) w w' e := by
 have n0 : (1 : Int) ≤ (n : Int) := by omega
 have n1 : (n : Int) ≤ 31 := by omega
 have ha := V1k n h1 h2
 have D : Off [] w w := Off.refl _ _
 go_enter Tryz.func184, Tryz.ntmps184
 go_upto_region 1 with fail
 refine wp_region_lit ?_
 refine Lv ?_
 refine Lw ?_ (v := .int .u64 (18446744073709551616 - (n : Int))) (hv := by go_simp; (try simp only [IntKind.wrap_u64, IntKind.wrap_i64]); (try omega))
 refine Lw ?_ (v := .int .u64 (((32 - n : Nat) : Int))) (hv := by first | (go_simp; done) | (go_simp; (try rw [ha]); (try omega)))
 refine Lv ?_
 refine J9 ?_
 go_upto_region 2 with fail
 refine wp_region_lit ?_
 refine Lv ?_
 refine Lv ?_
 refine Lw ?_ (v := .int .u32 (sl4 p (32 - n))) (hv := Q7s (n := (32 - n)) (by omega) rfl rfl rfl)
 refine Lv ?_
 refine Lv ?_
 refine Lw ?_ (v := .int .u64 ((n : Int))) (hv := by go_simp; (try simp only [IntKind.wrap_u64, IntKind.wrap_i64]); (try omega))
 refine Lw ?_ (v := .int .u32 (sr4 p n)) (hv := J7i (n := n) (by omega) rfl rfl rfl)
 refine Lw ?_ (v := .int .u32 (oo4 (sl4 p (32 - n)) (sr4 p n))) (hv := Z1s rfl rfl rfl)
 refine Lv ?_
 refine J9 ?_
 go_wp2
 exact bodyPost_ret (v := .int .u32 (oo4 (sl4 p (32 - n)) (sr4 p n))) (by simp only [results, Tryz.results184]; go_simp) rfl ⟨congrArg (fun z => Ending.returned (.int .u32 z)) (Z88 _ _), D.ext⟩
theorem J9m (p : Int) (n : Nat) (h1 : 1 ≤ n) (h2 : n ≤ 31) (w : World) :
  Calls Tryz.prog 178 #[.int .u32 p, .int .i64 (n : Int)] w fun e w' => K7 (.int .u32 (rt4 p n)) w w' e := by
 have n0 : (1 : Int) ≤ (n : Int) := by omega
 have n1 : (n : Int) ≤ 31 := by omega
 have D : Off [] w w := Off.refl _ _
 go_enter Tryz.func178, Tryz.ntmps178
 go_upto_region 1 with fail
 refine wp_region_lit ?_
 refine Lv ?_
 refine Lv ?_
 refine Lw ?_ (v := .int .i64 (-(n : Int))) (hv := by go_simp; (try simp only [IntKind.wrap_u64, IntKind.wrap_i64]); (try omega))
 refine Lr ?_ (Y23 p n h1 h2 w)
 intro W1 hO
 replace D := D.o hO
 clear hO
 refine Lv ?_
 refine J9 ?_
 go_wp2
 exact bodyPost_ret (v := .int .u32 (rt4 p n)) (by simp only [results, Tryz.results178]; go_simp) rfl ⟨rfl, D.ext⟩
theorem Z89 (p : Int) (a b c : Nat) (ha : 1 ≤ a ∧ a ≤ 31) (hb : 1 ≤ b ∧ b ≤ 31) (hc : 1 ≤ c ∧ c ≤ 31) (w : World) :
  Calls Tryz.prog 160 #[.int .u32 p, .int .i64 (a : Int), .int .i64 (b : Int), .int .i64 (c : Int)] w fun e w' => K7 (.int .u32 (Z3w p a b c)) w w' e := by
 have D : Off [] w w := Off.refl _ _
 go_enter Tryz.func160, Tryz.ntmps160
 go_upto_region 1 with fail
 refine wp_region_lit ?_
 refine Lv ?_
 refine Lv ?_
 refine Lr ?_ (J9m p a (by omega) (by omega) w)
 intro W1 hO
 replace D := D.o hO
 clear hO
 refine Lv ?_
 refine Lv ?_
 refine Lr ?_ (J9m p b (by omega) (by omega) W1)
 intro W2 hO
 replace D := D.o hO
 clear hO
 refine Lw ?_ (v := .int .u32 (xo4 (rt4 p a) (rt4 p b))) (hv := J4w rfl rfl rfl)
 refine Lv ?_
 refine Lv ?_
 refine Lr ?_ (J9m p c (by omega) (by omega) W2)
 intro W3 hO
 replace D := D.o hO
 clear hO
 refine Lw ?_ (v := .int .u32 (xo4 (xo4 (rt4 p a) (rt4 p b)) (rt4 p c))) (hv := J4w rfl rfl rfl)
 refine Lv ?_
 refine J9 ?_
 go_wp2
 exact bodyPost_ret (v := .int .u32 (xo4 (xo4 (rt4 p a) (rt4 p b)) (rt4 p c))) (by simp only [results, Tryz.results160]; go_simp) rfl ⟨rfl, D.ext⟩
theorem Q7t (p : Int) (a b c : Nat) (ha : 1 ≤ a ∧ a ≤ 31) (hb : 1 ≤ b ∧ b ≤ 31) (hc : 1 ≤ c ∧ c ≤ 31) (w : World) :
  Calls Tryz.prog 177 #[.int .u32 p, .int .i64 (a : Int), .int .i64 (b : Int), .int .i64 (c : Int)] w fun e w' => K7 (.int .u32 (J4v p a b c)) w w' e := by
 have D : Off [] w w := Off.refl _ _
 go_enter Tryz.func177, Tryz.ntmps177
 go_upto_region 1 with fail
 refine Rx 12 ?_
 refine Xv ?_
 refine Xv ?_
 refine Xf ?_ (fun W hW => J9m p a (by omega) (by omega) W)
 refine Xv ?_
 refine Xv ?_
 refine Xf ?_ (fun W hW => J9m p b (by omega) (by omega) W)
 refine Xw ?_ (v := .int .u32 (xo4 (rt4 p a) (rt4 p b))) (hv := fun _ _ => J4w rfl rfl rfl)
 refine Xv ?_
 refine Xv ?_
 refine Xw ?_ (v := .int .u32 (sr4 p c)) (hv := fun _ _ => J7i (n := c) (by omega) rfl rfl rfl)
 refine Xw ?_ (v := .int .u32 (xo4 (xo4 (rt4 p a) (rt4 p b)) (sr4 p c))) (hv := fun _ _ => J4w rfl rfl rfl)
 refine Xv ?_
 refine V7 fun W1 hE => ?_
 have hO := J0d hE
 replace D := D.o hO
 clear hO hE
 refine LN ?_
 go_wp2
 exact bodyPost_ret (v := .int .u32 (xo4 (xo4 (rt4 p a) (rt4 p b)) (sr4 p c))) (by simp only [results, Tryz.results177]; go_simp) rfl ⟨rfl, D.ext⟩
end

section
set_option maxHeartbeats 1500000
attribute [local irreducible] wpList

theorem Y24 {w : World} {o : Oper} {a : Act} {x : Operand} {c : UInt8} (ho : o.op = .convert 5 193 x) (hx : a.eval x = .int .u8 (c.toNat : Int)) : (execOp a.eval o).run Tryz.prog w = .ok (.value (.int .u32 (c.toNat : Int))) w := by
  have hc := c.toNat_lt
  have hw : IntKind.wrap .u32 (c.toNat : Int) = (c.toNat : Int) := by rw [IntKind.wrap_u32]; omega
  simp [execOp, ho, hx, convert, run_underlying Tryz.underlying5, run_underlying Tryz.underlying193, Sem.run_bind, Conv.intToInt, hw]
theorem Z3x {w : World} {o : Oper} {a : Act} {x y : Operand} {adr : Addr} {n c : Nat} (hl : 64 ≤ n) (hn : n ≤ c) (ho : o.op = .slice 22 x none (some y) none) (hx : a.eval x = .slice (some adr) n c) (hy : a.eval y = .int .i64 64) : (execOp a.eval o).run Tryz.prog w = .ok (.value (.slice (some adr) 64 c)) w := by
  have J : 64 ≤ c := by omega
  have G : ¬ c = 0 := by omega
  have h1 := J8z
  have D : adr.add 0 = adr := by unfold Addr.add; simp
  cases hq : Tryz.prog.info? 5 with
  | none => simp [hq] at h1
  | some i => simp [execOp, ho, hx, hy, Instr.sliceAt, Instr.slice, Instr.sliceBounds, Instr.sliceBound, asIntOf, run_underlying Tryz.underlying22, Sem.run_bind, sizeOf, typeInfo, hq, J, G, D]; intro h_; omega
def J8o (b : Nat → Int) (i : Nat) : Nat → Int
  | 0 => 0
  | k + 1 => oo4 (sl4 (J8o b i k) 8) (b (4 * i + k))
def sg4 (f : Nat → Int) (i : Nat) : Int := ad4 (ad4 (ad4 (f (i - 16)) (J4v (f (i - 15)) 7 18 3)) (f (i - 7))) (J4v (f (i - 2)) 17 19 10)
def Y7 (b : Nat → Int) : Nat → Nat → Int
  | 0 => fun _ => 0
  | i + 1 => upd (Y7 b i) i (if i < 16 then J8o b i 4 else sg4 (Y7 b i) i)
theorem Y25 {b : Nat → Int} {i : Nat} (h : 16 ≤ i) : upd (Y7 b i) i (sg4 (Y7 b i) i) = Y7 b (i + 1) := by
  show _ = upd (Y7 b i) i (if i < 16 then J8o b i 4 else sg4 (Y7 b i) i)
  rw [if_neg (by omega)]
theorem Z1t (b : Nat → Int) : ∀ i, i ≤ 16 → ∀ j, Y7 b i j = if j < i then J8o b j 4 else 0
  | 0, _, j => by simp [Y7]
  | i + 1, h, j => by
    show upd (Y7 b i) i (if i < 16 then J8o b i 4 else sg4 (Y7 b i) i) j = _
    rw [if_pos (by omega)]
    unfold upd
    by_cases hj : j = i
    · rw [if_pos hj, if_pos (by omega), hj]
    · rw [if_neg hj, Z1t b i (by omega) j]
      by_cases hl : j < i
      · rw [if_pos hl, if_pos (by omega)]
      · rw [if_neg hl, if_neg (by omega)]
def J6g (b : Nat → Int) (n j : Nat) : Int := if j < n / 4 then J8o b j 4 else if j = n / 4 then J8o b j (n % 4) else 0
theorem Z3y (b : Nat → Int) (n : Nat) : upd (J6g b n) (n / 4) (oo4 (sl4 (J6g b n (n / 4)) 8) (b n)) = J6g b (n + 1) := by
  funext j
  have e : J6g b n (n / 4) = J8o b (n / 4) (n % 4) := by unfold J6g; rw [if_neg (by omega), if_pos rfl]
  have hb : b n = b (4 * (n / 4) + n % 4) := by rw [Nat.div_add_mod]
  rw [e, hb]
  show (if j = n / 4 then J8o b (n / 4) (n % 4 + 1) else J6g b n j) = J6g b (n + 1) j
  unfold J6g
  by_cases hm : n % 4 = 3
  · have h1 : (n + 1) / 4 = n / 4 + 1 := by omega
    have h2 : (n + 1) % 4 = 0 := by omega
    rw [h1, h2, hm]
    by_cases hj : j = n / 4
    · rw [if_pos hj, if_pos (by omega), hj]
    rw [if_neg hj]
    by_cases hl : j < n / 4
    · rw [if_pos hl, if_pos (by omega)]
    rw [if_neg hl, if_neg hj, if_neg (by omega)]
    split
    · rfl
    rfl
  have h1 : (n + 1) / 4 = n / 4 := by omega
  have h2 : (n + 1) % 4 = n % 4 + 1 := by omega
  rw [h1, h2]
  by_cases hj : j = n / 4
  · rw [if_pos hj, if_neg (by omega), if_pos hj, hj]
  rw [if_neg hj]
  by_cases hl : j < n / 4
  · rw [if_pos hl, if_pos hl]
  rw [if_neg hl, if_neg hj, if_neg hl, if_neg hj]
theorem Z8a (b : Nat → Int) : J6g b 64 = Y7 b 16 := by
  funext j
  rw [Z1t b 16 (Nat.le_refl _) j]
  unfold J6g
  by_cases h : j < 16
  · rw [if_pos (by omega), if_pos h]
  rw [if_neg (by omega), if_neg h]
  split
  · rename_i h2; rw [show 64 % 4 = 0 by rfl]; rfl
  rfl
theorem Z3z (b : Nat → Int) : J6g b 0 = fun _ => 0 := by
  funext j
  unfold J6g
  rw [if_neg (by omega)]
  split <;> rfl

theorem Z40 (l : List UInt8) (adr : Addr) (c : Nat) (hl : 64 ≤ l.length) (hc : l.length ≤ c) (w : World) (hs : Sl w (.slice (some adr) l.length c) l) :
  Calls Tryz.prog 159 #[.slice (some adr) l.length c] w fun e w' => K7 (.agg (J0 .u32 64 (Y7 (bt l) 64))) w w' e := by
 have K1 := hs
 have D : Off [] w w := Off.refl _ _
 go_enter Tryz.func159, Tryz.ntmps159
 go_upto_region 0 with fail
 refine wp_region_lit ?_
 refine Ln ?_ (z := J0 .u32 64 (fun _ => 0)) (t := 231)
 intro X5 W1 X hO h_
 have Z := fbn D X
 replace K1 := Sl.off K1 hO f0
 replace D := D.o hO
 have J := h_
 clear hO h_ X
 refine J9 ?_
 go_upto_region 1 with fail
 refine wp_region_lit ?_
 refine Ln ?_ (z := J0 .u32 64 (fun _ => 0)) (t := 231)
 intro M W2 N hO h_
 have Y := bn J N
 have T := J72 (Sl.lt K1) N
 have U := fbn D N
 replace J := J.o hO
 replace K1 := Sl.off K1 hO f0
 replace D := D.o hO
 have G := h_
 clear hO h_ N
 refine J9 ?_
 go_upto_region 2 with fail
 refine wp_region_lit ?_
 refine Lv ?_
 refine Lw ?_ (v := .slice (some adr) 64 c) (hv := Z3x hl hc rfl rfl rfl)
 refine Lw ?_ (v := .int .i64 64)
 refine Lw ?_ (v := .int .i64 0)
 refine J9 ?_
 go_wp2_with fail
 go_loopw [9] (fun ii wr => ∃ (n : Nat), (n ≤ 64) ∧ (ii = .int .i64 (n : Int)) ∧ Off [] w wr ∧ Blk wr X5 (J0 .u32 64 (fun _ => 0)) 231 ∧ Blk wr M (J0 .u32 64 (J6g (bt l) n)) 231 ∧ Sl wr (.slice (some adr) l.length c) l)
  (fun ii _ => 64 - (intOf ii).toNat)
 case atStart => exact ⟨0, Nat.zero_le _, rfl, D, J, (by rw [Z3z]; exact G), K1⟩
 case round =>
  obtain ⟨n, hn, rfl, D, J, G, K1⟩ := hrel
  obtain ⟨W3, R⟩ := J54 D
  subst R
  by_cases S : n < 64
  ·
   go_upto_region 3 with fail
   refine wp_region_lit ?_
   refine Lw ?_ (v := .bool true)
   refine J9 ?_
   go_upto_region 5 with fail
   refine Rx 14 ?_
   refine Xv ?_
   refine Xw ?_ (v := .int .i64 (((n / 4 : Nat) : Int))) (hv := fun _ _ => by go_simp; (try simp only [IntKind.wrap_u64, IntKind.wrap_i64]); (try omega))
   refine Xv ?_
   refine Xw ?_ (v := .int .i64 (((n / 4 : Nat) : Int))) (hv := fun _ _ => by go_simp; (try simp only [IntKind.wrap_u64, IntKind.wrap_i64]); (try omega))
   refine Xw ?_ (v := .pointer (some ⟨M, 0 + (n / 4), none⟩)) (hv := fun _ _ => J5 (m := 64) (by decide) (by omega) Tryz.underlying231 (by kernel_rfl) rfl rfl rfl)
   refine Xc ?_ (v := .int .u32 ((J6g (bt l) n) (n / 4))) (K4 G) (hj := by rw [Nat.zero_add]; exact J3 _ _ _ _ (by omega))
   refine Xw ?_ (v := .int .u32 (sl4 ((J6g (bt l) n) (n / 4)) 8)) (hv := fun _ _ => Q7s (n := 8) (by decide) rfl rfl rfl)
   refine Xv ?_
   refine Xv ?_
   refine Xw ?_ (v := .pointer (some (adr.add n))) (hv := fun W hW => Q0x (j := n) (by omega) rfl rfl rfl)
   refine Z5c (by rfl) rfl rfl (fun W hW => J24 (Q6o K1 (J7s (by omega))) hW) (by kernel_rfl) ?_
   (try simp only [Act.put, mA, mB, mC])
   refine Xw ?_ (v := .int .u32 (bt l n)) (hv := fun _ _ => by exact Y24 rfl rfl)
   refine Xw ?_ (v := .int .u32 (oo4 (sl4 ((J6g (bt l) n) (n / 4)) 8) (bt l n))) (hv := fun _ _ => Z1s rfl rfl rfl)
   refine Xw ?_ (v := .pointer (some ⟨M, 0 + (n / 4), none⟩)) (hv := fun _ _ => J5 (m := 64) (by decide) (by omega) Tryz.underlying231 (by kernel_rfl) rfl rfl rfl)
   refine V7 fun W4 hE => ?_
   have hO := J0d hE
   replace J := J.o hO
   replace G := G.o hO
   replace K1 := Sl.off K1 hO f0
   replace D := D.o hO
   clear hO hE
   refine J42 (v := .int .u32 (oo4 (sl4 ((J6g (bt l) n) (n / 4)) 8) (bt l n))) ⟨rfl, rfl⟩ (by rfl) rfl rfl rfl G (by rw [J1, Nat.zero_add]; omega) (by kernel_rfl) ?_
   (try simp only [Act.put, mA, mB, mC])
   intro W5 hO h_
   rw [Nat.zero_add, V4] at h_
   replace G : Blk W5 M (J0 .u32 64 (upd (J6g (bt l) n) (n / 4) (oo4 (sl4 ((J6g (bt l) n) (n / 4)) 8) (bt l n)))) 231 := h_
   clear h_
   replace J := J.p hO Y
   replace K1 := Sl.off K1 hO (f1 T)
   replace D := D.p hO U
   clear hO
   refine LN ?_
   go_wp2
   go_roundw
   case rel => exact ⟨n + 1, by omega, by go_num, D, J, (by rw [← Z3y]; exact G), K1⟩
   case measure => simp [intOf]; omega
  obtain rfl : n = 64 := by omega
  rw [Z8a] at G
  go_upto_region 3 with fail
  refine wp_region_lit ?_
  refine Lw ?_ (v := .bool false)
  refine J9 ?_
  go_wp2_with fail
  go_loopw [5] (fun ii wr => ∃ (i : Nat), (16 ≤ i ∧ i ≤ 64) ∧ (ii = .int .i64 (i : Int)) ∧ Off [] w wr ∧ Blk wr X5 (J0 .u32 64 (fun _ => 0)) 231 ∧ Blk wr M (J0 .u32 64 (Y7 (bt l) i)) 231 ∧ Sl wr (.slice (some adr) l.length c) l)
   (fun ii _ => 64 - (intOf ii).toNat)
  case atStart => exact ⟨16, ⟨Nat.le_refl _, by decide⟩, rfl, D, J, G, K1⟩
  case round =>
   obtain ⟨i, ⟨hi, α⟩, rfl, D, J, G, K1⟩ := hrel
   obtain ⟨W4, R⟩ := J54 D
   subst R
   by_cases V : i < 64
   ·
    go_upto_region 8 with fail
    refine wp_region_lit ?_
    refine Lv ?_
    refine Lw ?_ (v := .bool true)
    refine J9 ?_
    go_upto_region 10 with fail
    refine Rx 23 ?_
    refine Xv ?_
    refine Xv ?_
    refine Xw ?_ (v := .int .i64 (((i - 16 : Nat) : Int))) (hv := fun _ _ => by go_simp; (try simp only [IntKind.wrap_u64, IntKind.wrap_i64]); (try omega))
    refine Xw ?_ (v := .pointer (some ⟨M, 0 + (i - 16), none⟩)) (hv := fun _ _ => J5 (m := 64) (by decide) (by omega) Tryz.underlying231 (by kernel_rfl) rfl rfl rfl)
    refine Xc ?_ (v := .int .u32 ((Y7 (bt l) i) (i - 16))) (K4 G) (hj := by rw [Nat.zero_add]; exact J3 _ _ _ _ (by omega))
    refine Xv ?_
    refine Xw ?_ (v := .int .i64 (((i - 15 : Nat) : Int))) (hv := fun _ _ => by go_simp; (try simp only [IntKind.wrap_u64, IntKind.wrap_i64]); (try omega))
    refine Xw ?_ (v := .pointer (some ⟨M, 0 + (i - 15), none⟩)) (hv := fun _ _ => J5 (m := 64) (by decide) (by omega) Tryz.underlying231 (by kernel_rfl) rfl rfl rfl)
    refine Xc ?_ (v := .int .u32 ((Y7 (bt l) i) (i - 15))) (K4 G) (hj := by rw [Nat.zero_add]; exact J3 _ _ _ _ (by omega))
    refine Xf ?_ (fun W hW => Q7t ((Y7 (bt l) i) (i - 15)) 7 18 3 (by decide) (by decide) (by decide) W)
    refine Xw ?_ (v := .int .u32 (ad4 ((Y7 (bt l) i) (i - 16)) (J4v ((Y7 (bt l) i) (i - 15)) 7 18 3))) (hv := fun _ _ => J3k rfl rfl rfl)
    refine Xv ?_
    refine Xw ?_ (v := .int .i64 (((i - 7 : Nat) : Int))) (hv := fun _ _ => by go_simp; (try simp only [IntKind.wrap_u64, IntKind.wrap_i64]); (try omega))
    refine Xw ?_ (v := .pointer (some ⟨M, 0 + (i - 7), none⟩)) (hv := fun _ _ => J5 (m := 64) (by decide) (by omega) Tryz.underlying231 (by kernel_rfl) rfl rfl rfl)
    refine Xc ?_ (v := .int .u32 ((Y7 (bt l) i) (i - 7))) (K4 G) (hj := by rw [Nat.zero_add]; exact J3 _ _ _ _ (by omega))
    refine Xw ?_ (v := .int .u32 (ad4 (ad4 ((Y7 (bt l) i) (i - 16)) (J4v ((Y7 (bt l) i) (i - 15)) 7 18 3)) ((Y7 (bt l) i) (i - 7)))) (hv := fun _ _ => J3k rfl rfl rfl)
    refine Xv ?_
    refine Xw ?_ (v := .int .i64 (((i - 2 : Nat) : Int))) (hv := fun _ _ => by go_simp; (try simp only [IntKind.wrap_u64, IntKind.wrap_i64]); (try omega))
    refine Xw ?_ (v := .pointer (some ⟨M, 0 + (i - 2), none⟩)) (hv := fun _ _ => J5 (m := 64) (by decide) (by omega) Tryz.underlying231 (by kernel_rfl) rfl rfl rfl)
    refine Xc ?_ (v := .int .u32 ((Y7 (bt l) i) (i - 2))) (K4 G) (hj := by rw [Nat.zero_add]; exact J3 _ _ _ _ (by omega))
    refine Xf ?_ (fun W hW => Q7t ((Y7 (bt l) i) (i - 2)) 17 19 10 (by decide) (by decide) (by decide) W)
    refine Xw ?_ (v := .int .u32 (ad4 (ad4 (ad4 ((Y7 (bt l) i) (i - 16)) (J4v ((Y7 (bt l) i) (i - 15)) 7 18 3)) ((Y7 (bt l) i) (i - 7))) (J4v ((Y7 (bt l) i) (i - 2)) 17 19 10))) (hv := fun _ _ => J3k rfl rfl rfl)
    refine Xw ?_ (v := .pointer (some ⟨M, 0 + i, none⟩)) (hv := fun _ _ => J5 (m := 64) (by decide) (by omega) Tryz.underlying231 (by kernel_rfl) rfl rfl rfl)
    refine V7 fun W5 hE => ?_
    have hO := J0d hE
    replace J := J.o hO
    replace G := G.o hO
    replace K1 := Sl.off K1 hO f0
    replace D := D.o hO
    clear hO hE
    refine J42 (v := .int .u32 (ad4 (ad4 (ad4 ((Y7 (bt l) i) (i - 16)) (J4v ((Y7 (bt l) i) (i - 15)) 7 18 3)) ((Y7 (bt l) i) (i - 7))) (J4v ((Y7 (bt l) i) (i - 2)) 17 19 10))) ⟨rfl, rfl⟩ (by rfl) rfl rfl rfl G (by rw [J1, Nat.zero_add]; omega) (by kernel_rfl) ?_
    (try simp only [Act.put, mA, mB, mC])
    intro W6 hO h_
    rw [Nat.zero_add, V4] at h_
    replace G : Blk W6 M (J0 .u32 64 (upd (Y7 (bt l) i) i (ad4 (ad4 (ad4 ((Y7 (bt l) i) (i - 16)) (J4v ((Y7 (bt l) i) (i - 15)) 7 18 3)) ((Y7 (bt l) i) (i - 7))) (J4v ((Y7 (bt l) i) (i - 2)) 17 19 10)))) 231 := h_
    clear h_
    replace J := J.p hO Y
    replace K1 := Sl.off K1 hO (f1 T)
    replace D := D.p hO U
    clear hO
    refine LN ?_
    go_wp2
    go_roundw
    case rel => exact ⟨i + 1, ⟨by omega, by omega⟩, by go_num, D, J, (by rw [← Y25 hi]; exact G), K1⟩
    case measure => simp [intOf]; omega
   obtain rfl : i = 64 := by omega
   go_upto_region 8 with fail
   refine wp_region_lit ?_
   refine Lv ?_
   refine Lw ?_ (v := .bool false)
   refine J9 ?_
   go_upto_region 11 with fail
   refine wp_region_lit ?_
   refine L0A ?_ G
   refine LpA ?_ J (k := .u32) (n := 64) (f := Y7 (bt l) 64)
   intro W5 hO h_
   replace J : Blk W5 X5 (J0 .u32 64 (Y7 (bt l) 64)) 231 := h_
   clear h_
   replace D := D.p hO Z
   clear hO
   refine J9 ?_
   go_wp2
   refine bodyPost_ret (Z6 rfl rfl J (by kernel_rfl) (by rw [J1]; kernel_rfl)) rfl ⟨rfl, D.ext⟩
end

section
set_option maxHeartbeats 1500000
attribute [local irreducible] wpList

def kk4 : List Int := [1116352408, 1899447441, 3049323471, 3921009573, 961987163, 1508970993, 2453635748, 2870763221, 3624381080, 310598401, 607225278, 1426881987, 1925078388, 2162078206, 2614888103, 3248222580, 3835390401, 4022224774, 264347078, 604807628, 770255983, 1249150122, 1555081692, 1996064986, 2554220882, 2821834349, 2952996808, 3210313671, 3336571891, 3584528711, 113926993, 338241895, 666307205, 773529912, 1294757372, 1396182291, 1695183700, 1986661051, 2177026350, 2456956037, 2730485921, 2820302411, 3259730800, 3345764771, 3516065817, 3600352804, 4094571909, 275423344, 430227734, 506948616, 659060556, 883997877, 958139571, 1322822218, 1537002063, 1747873779, 1955562222, 2024104815, 2227730452, 2361852424, 2428436474, 2756734187, 3204031479, 3329325298]
def hh4 : List Int := [1779033703, 3144134277, 1013904242, 2773480762, 1359893119, 2600822924, 528734635, 1541459225]
def kf4 (i : Nat) : Int := kk4.getD i 0
def hf4 (i : Nat) : Int := hh4.getD i 0
def GS4 (w : World) : Prop := Rd w 11 (J0 .u32 64 kf4) ∧ Rd w 4 (J0 .u32 8 hf4)
theorem J2b {w W : World} (h : GS4 w) (e : Ext w W) : GS4 W := ⟨h.1.ext e, h.2.ext e⟩
def rT4 (k w : Nat → Int) (i : Nat) (v : Nat → Int) : Int := ad4 (ad4 (ad4 (ad4 (v 7) (Z3w (v 4) 6 11 25)) (xo4 (an4 (v 4) (v 5)) (an4 (nt4 (v 4)) (v 6)))) (k i)) (w i)
def rU4 (v : Nat → Int) : Int := ad4 (Z3w (v 0) 2 13 22) (xo4 (xo4 (an4 (v 0) (v 1)) (an4 (v 0) (v 2))) (an4 (v 1) (v 2)))
def V3t (k w : Nat → Int) (i : Nat) (v : Nat → Int) : Nat → Int
  | 0 => ad4 (rT4 k w i v) (rU4 v)
  | 1 => v 0
  | 2 => v 1
  | 3 => v 2
  | 4 => ad4 (v 3) (rT4 k w i v)
  | 5 => v 4
  | 6 => v 5
  | 7 => v 6
  | _ => 0
def V0 (k w v : Nat → Int) : Nat → Nat → Int
  | 0 => v
  | i + 1 => V3t k w i (V0 k w v i)
def J6h (h b : Nat → Int) (j : Nat) : Int := ad4 (h j) (V0 kf4 (Y7 b 64) h 64 j)
def mx4 (h v : Nat → Int) (i j : Nat) : Int := if j < i then ad4 (h j) (v j) else h j
theorem Z8b (h v : Nat → Int) (i : Nat) : upd (mx4 h v i) i (ad4 (mx4 h v i i) (v i)) = mx4 h v (i + 1) := by
  funext j
  unfold upd mx4
  by_cases hj : j = i
  · subst hj; rw [if_pos rfl, if_neg (by omega), if_pos (by omega)]
  rw [if_neg hj]
  by_cases hl : j < i
  · rw [if_pos hl, if_pos (by omega)]
  rw [if_neg hl, if_neg (by omega)]
theorem Z8c (h v : Nat → Int) : mx4 h v 0 = h := by funext j; unfold mx4; rw [if_neg (by omega)]
theorem Y26 (h b : Nat → Int) : J0 .u32 8 (mx4 h (V0 kf4 (Y7 b 64) h 64) 8) = J0 .u32 8 (J6h h b) := K5 _ _ _ _ fun j hj => by unfold mx4 J6h; rw [if_pos hj]

theorem Z8d (h : Nat → Int) (l : List UInt8) (adr : Addr) (c : Nat) (hl : 64 ≤ l.length) (hlc : l.length ≤ c) (w : World) (hs : Sl w (.slice (some adr) l.length c) l) (hG : GS4 w) :
  Calls Tryz.prog 128 #[.agg (J0 .u32 8 h), .slice (some adr) l.length c] w fun e w' => K7 (.agg (J0 .u32 8 (J6h h (bt l)))) w w' e := by
 have HG := Lib.hid hG
 clear hG
 have K1 := hs
 have G : Off [] w w := Off.refl _ _
 go_enter Tryz.func128, Tryz.ntmps128
 go_upto_region 0 with fail
 refine wp_region_lit ?_
 refine Ln ?_ (z := J0 .u32 8 h) (t := 194)
 intro X5 W1 β hO h_
 have ξ := J72 (Sl.lt K1) β
 have κ := fbn G β
 replace K1 := Sl.off K1 hO f0
 replace G := G.o hO
 have J := h_
 clear hO h_ β
 refine Ln ?_ (z := J0 .u32 8 (fun _ => 0)) (t := 194)
 intro Y W2 γ hO h_
 have V := bn J γ
 have μ := fbn G γ
 replace J := J.o hO
 replace K1 := Sl.off K1 hO f0
 replace G := G.o hO
 have M := h_
 clear hO h_ γ
 refine J9 ?_
 go_upto_region 1 with fail
 refine wp_region_lit ?_
 refine Lv ?_
 refine Lr ?_ (Z40 l adr c hl hlc W2 K1)
 intro W3 hO
 replace J := J.o hO
 replace M := M.o hO
 replace K1 := Sl.off K1 hO f0
 replace G := G.o hO
 clear hO
 refine LnA ?_ (z := J0 .u32 64 (fun _ => 0)) (t := 231) (k := .u32) (n := 64) (f := Y7 (bt l) 64)
 intro δ W5 ε hO h_
 have U := bn J ε
 replace J := J.o hO
 replace M := M.o hO
 replace K1 := Sl.off K1 hO f0
 replace G := G.o hO
 have N := h_
 clear hO h_ ε
 refine J9 ?_
 go_upto_region 2 with fail
 refine wp_region_lit ?_
 refine L0A ?_ J
 refine LnA ?_ (z := J0 .u32 8 (fun _ => 0)) (t := 194) (k := .u32) (n := 8) (f := h)
 intro R W7 T hO h_
 have S := bn J T
 have η := bn M T
 have ν := bn N T
 have ρ := J72 (Sl.lt K1) T
 have θ := fbn G T
 replace J := J.o hO
 replace M := M.o hO
 replace N := N.o hO
 replace K1 := Sl.off K1 hO f0
 replace G := G.o hO
 have D := h_
 clear hO h_ T
 refine J9 ?_
 go_wp2_with fail
 go_loopw [14] (fun ii wr => ∃ (i : Nat), (i ≤ 64) ∧ (ii = .int .i64 (i : Int)) ∧ Off [] w wr ∧ Blk wr X5 (J0 .u32 8 h) 194 ∧ Blk wr Y (J0 .u32 8 (fun _ => 0)) 194 ∧ Blk wr δ (J0 .u32 64 (Y7 (bt l) 64)) 231 ∧ Blk wr R (J0 .u32 8 (V0 kf4 (Y7 (bt l) 64) h i)) 194 ∧ Sl wr (.slice (some adr) l.length c) l)
  (fun ii _ => 64 - (intOf ii).toNat)
 case atStart => exact ⟨0, Nat.zero_le _, rfl, G, J, M, N, D, K1⟩
 case round =>
  obtain ⟨i, hi, rfl, G, J, M, N, D, K1⟩ := hrel
  obtain ⟨W8, X⟩ := J54 G
  subst X
  by_cases ζ : i < 64
  ·
   go_upto_region 4 with fail
   refine wp_region_lit ?_
   refine Lw ?_ (v := .bool true)
   refine J9 ?_
   go_upto_region 6 with fail
   refine Rx 28 ?_
   refine Xw ?_ (v := .pointer (some ⟨R, 0 + 7, none⟩)) (hv := fun _ _ => J5 (m := 8) (by decide) (by omega) Tryz.underlying194 (by kernel_rfl) rfl rfl rfl)
   refine Xc ?_ (v := .int .u32 ((V0 kf4 (Y7 (bt l) 64) h i) 7)) (K4 D) (hj := by rw [Nat.zero_add]; exact J3 _ _ _ _ (by omega))
   refine Xw ?_ (v := .pointer (some ⟨R, 0 + 4, none⟩)) (hv := fun _ _ => J5 (m := 8) (by decide) (by omega) Tryz.underlying194 (by kernel_rfl) rfl rfl rfl)
   refine Xc ?_ (v := .int .u32 ((V0 kf4 (Y7 (bt l) 64) h i) 4)) (K4 D) (hj := by rw [Nat.zero_add]; exact J3 _ _ _ _ (by omega))
   refine Xf ?_ (fun W hW => Z89 ((V0 kf4 (Y7 (bt l) 64) h i) 4) 6 11 25 (by decide) (by decide) (by decide) W)
   refine Xw ?_ (v := .int .u32 (ad4 ((V0 kf4 (Y7 (bt l) 64) h i) 7) (Z3w ((V0 kf4 (Y7 (bt l) 64) h i) 4) 6 11 25))) (hv := fun _ _ => J3k rfl rfl rfl)
   refine Xw ?_ (v := .pointer (some ⟨R, 0 + 4, none⟩)) (hv := fun _ _ => J5 (m := 8) (by decide) (by omega) Tryz.underlying194 (by kernel_rfl) rfl rfl rfl)
   refine Xc ?_ (v := .int .u32 ((V0 kf4 (Y7 (bt l) 64) h i) 4)) (K4 D) (hj := by rw [Nat.zero_add]; exact J3 _ _ _ _ (by omega))
   refine Xw ?_ (v := .pointer (some ⟨R, 0 + 5, none⟩)) (hv := fun _ _ => J5 (m := 8) (by decide) (by omega) Tryz.underlying194 (by kernel_rfl) rfl rfl rfl)
   refine Xc ?_ (v := .int .u32 ((V0 kf4 (Y7 (bt l) 64) h i) 5)) (K4 D) (hj := by rw [Nat.zero_add]; exact J3 _ _ _ _ (by omega))
   refine Xw ?_ (v := .int .u32 (an4 ((V0 kf4 (Y7 (bt l) 64) h i) 4) ((V0 kf4 (Y7 (bt l) 64) h i) 5))) (hv := fun _ _ => J7j rfl rfl rfl)
   refine Xw ?_ (v := .pointer (some ⟨R, 0 + 4, none⟩)) (hv := fun _ _ => J5 (m := 8) (by decide) (by omega) Tryz.underlying194 (by kernel_rfl) rfl rfl rfl)
   refine Xc ?_ (v := .int .u32 ((V0 kf4 (Y7 (bt l) 64) h i) 4)) (K4 D) (hj := by rw [Nat.zero_add]; exact J3 _ _ _ _ (by omega))
   refine Xw ?_ (v := .int .u32 (nt4 ((V0 kf4 (Y7 (bt l) 64) h i) 4))) (hv := fun _ _ => Z8e rfl rfl)
   refine Xw ?_ (v := .pointer (some ⟨R, 0 + 6, none⟩)) (hv := fun _ _ => J5 (m := 8) (by decide) (by omega) Tryz.underlying194 (by kernel_rfl) rfl rfl rfl)
   refine Xc ?_ (v := .int .u32 ((V0 kf4 (Y7 (bt l) 64) h i) 6)) (K4 D) (hj := by rw [Nat.zero_add]; exact J3 _ _ _ _ (by omega))
   refine Xw ?_ (v := .int .u32 (an4 (nt4 ((V0 kf4 (Y7 (bt l) 64) h i) 4)) ((V0 kf4 (Y7 (bt l) 64) h i) 6))) (hv := fun _ _ => J7j rfl rfl rfl)
   refine Xw ?_ (v := .int .u32 (xo4 (an4 ((V0 kf4 (Y7 (bt l) 64) h i) 4) ((V0 kf4 (Y7 (bt l) 64) h i) 5)) (an4 (nt4 ((V0 kf4 (Y7 (bt l) 64) h i) 4)) ((V0 kf4 (Y7 (bt l) 64) h i) 6)))) (hv := fun _ _ => J4w rfl rfl rfl)
   refine Xw ?_ (v := .int .u32 (ad4 (ad4 ((V0 kf4 (Y7 (bt l) 64) h i) 7) (Z3w ((V0 kf4 (Y7 (bt l) 64) h i) 4) 6 11 25)) (xo4 (an4 ((V0 kf4 (Y7 (bt l) 64) h i) 4) ((V0 kf4 (Y7 (bt l) 64) h i) 5)) (an4 (nt4 ((V0 kf4 (Y7 (bt l) 64) h i) 4)) ((V0 kf4 (Y7 (bt l) 64) h i) 6))))) (hv := fun _ _ => J3k rfl rfl rfl)
   refine Xv ?_
   refine Xw ?_ (v := .pointer (some ⟨11, 0 + i, none⟩)) (hv := fun _ _ => J5 (m := 64) (by decide) (by omega) Tryz.underlying231 (by kernel_rfl) rfl rfl rfl)
   refine Xc ?_ (v := .int .u32 (kf4 i)) ((J2b HG.out G.ext).1) (hj := by rw [Nat.zero_add]; exact J3 _ _ _ _ (by omega))
   refine Xw ?_ (v := .int .u32 (ad4 (ad4 (ad4 ((V0 kf4 (Y7 (bt l) 64) h i) 7) (Z3w ((V0 kf4 (Y7 (bt l) 64) h i) 4) 6 11 25)) (xo4 (an4 ((V0 kf4 (Y7 (bt l) 64) h i) 4) ((V0 kf4 (Y7 (bt l) 64) h i) 5)) (an4 (nt4 ((V0 kf4 (Y7 (bt l) 64) h i) 4)) ((V0 kf4 (Y7 (bt l) 64) h i) 6)))) (kf4 i))) (hv := fun _ _ => J3k rfl rfl rfl)
   refine Xv ?_
   refine Xw ?_ (v := .pointer (some ⟨δ, 0 + i, none⟩)) (hv := fun _ _ => J5 (m := 64) (by decide) (by omega) Tryz.underlying231 (by kernel_rfl) rfl rfl rfl)
   refine Xc ?_ (v := .int .u32 ((Y7 (bt l) 64) i)) (K4 N) (hj := by rw [Nat.zero_add]; exact J3 _ _ _ _ (by omega))
   refine Xw ?_ (v := .int .u32 (rT4 kf4 (Y7 (bt l) 64) i (V0 kf4 (Y7 (bt l) 64) h i)))
   refine Xv ?_
   refine V7 fun W9 hE => ?_
   have hO := J0d hE
   replace J := J.o hO
   replace M := M.o hO
   replace N := N.o hO
   replace D := D.o hO
   replace K1 := Sl.off K1 hO f0
   replace G := G.o hO
   clear hO hE
   refine LN ?_
   go_upto_region 7 with fail
   refine Rx 22 ?_
   refine Xw ?_ (v := .pointer (some ⟨R, 0 + 0, none⟩)) (hv := fun _ _ => J5 (m := 8) (by decide) (by omega) Tryz.underlying194 (by kernel_rfl) rfl rfl rfl)
   refine Xc ?_ (v := .int .u32 ((V0 kf4 (Y7 (bt l) 64) h i) 0)) (K4 D) (hj := by rw [Nat.zero_add]; exact J3 _ _ _ _ (by omega))
   refine Xf ?_ (fun W hW => Z89 ((V0 kf4 (Y7 (bt l) 64) h i) 0) 2 13 22 (by decide) (by decide) (by decide) W)
   refine Xw ?_ (v := .pointer (some ⟨R, 0 + 0, none⟩)) (hv := fun _ _ => J5 (m := 8) (by decide) (by omega) Tryz.underlying194 (by kernel_rfl) rfl rfl rfl)
   refine Xc ?_ (v := .int .u32 ((V0 kf4 (Y7 (bt l) 64) h i) 0)) (K4 D) (hj := by rw [Nat.zero_add]; exact J3 _ _ _ _ (by omega))
   refine Xw ?_ (v := .pointer (some ⟨R, 0 + 1, none⟩)) (hv := fun _ _ => J5 (m := 8) (by decide) (by omega) Tryz.underlying194 (by kernel_rfl) rfl rfl rfl)
   refine Xc ?_ (v := .int .u32 ((V0 kf4 (Y7 (bt l) 64) h i) 1)) (K4 D) (hj := by rw [Nat.zero_add]; exact J3 _ _ _ _ (by omega))
   refine Xw ?_ (v := .int .u32 (an4 ((V0 kf4 (Y7 (bt l) 64) h i) 0) ((V0 kf4 (Y7 (bt l) 64) h i) 1))) (hv := fun _ _ => J7j rfl rfl rfl)
   refine Xw ?_ (v := .pointer (some ⟨R, 0 + 0, none⟩)) (hv := fun _ _ => J5 (m := 8) (by decide) (by omega) Tryz.underlying194 (by kernel_rfl) rfl rfl rfl)
   refine Xc ?_ (v := .int .u32 ((V0 kf4 (Y7 (bt l) 64) h i) 0)) (K4 D) (hj := by rw [Nat.zero_add]; exact J3 _ _ _ _ (by omega))
   refine Xw ?_ (v := .pointer (some ⟨R, 0 + 2, none⟩)) (hv := fun _ _ => J5 (m := 8) (by decide) (by omega) Tryz.underlying194 (by kernel_rfl) rfl rfl rfl)
   refine Xc ?_ (v := .int .u32 ((V0 kf4 (Y7 (bt l) 64) h i) 2)) (K4 D) (hj := by rw [Nat.zero_add]; exact J3 _ _ _ _ (by omega))
   refine Xw ?_ (v := .int .u32 (an4 ((V0 kf4 (Y7 (bt l) 64) h i) 0) ((V0 kf4 (Y7 (bt l) 64) h i) 2))) (hv := fun _ _ => J7j rfl rfl rfl)
   refine Xw ?_ (v := .int .u32 (xo4 (an4 ((V0 kf4 (Y7 (bt l) 64) h i) 0) ((V0 kf4 (Y7 (bt l) 64) h i) 1)) (an4 ((V0 kf4 (Y7 (bt l) 64) h i) 0) ((V0 kf4 (Y7 (bt l) 64) h i) 2)))) (hv := fun _ _ => J4w rfl rfl rfl)
   refine Xw ?_ (v := .pointer (some ⟨R, 0 + 1, none⟩)) (hv := fun _ _ => J5 (m := 8) (by decide) (by omega) Tryz.underlying194 (by kernel_rfl) rfl rfl rfl)
   refine Xc ?_ (v := .int .u32 ((V0 kf4 (Y7 (bt l) 64) h i) 1)) (K4 D) (hj := by rw [Nat.zero_add]; exact J3 _ _ _ _ (by omega))
   refine Xw ?_ (v := .pointer (some ⟨R, 0 + 2, none⟩)) (hv := fun _ _ => J5 (m := 8) (by decide) (by omega) Tryz.underlying194 (by kernel_rfl) rfl rfl rfl)
   refine Xc ?_ (v := .int .u32 ((V0 kf4 (Y7 (bt l) 64) h i) 2)) (K4 D) (hj := by rw [Nat.zero_add]; exact J3 _ _ _ _ (by omega))
   refine Xw ?_ (v := .int .u32 (an4 ((V0 kf4 (Y7 (bt l) 64) h i) 1) ((V0 kf4 (Y7 (bt l) 64) h i) 2))) (hv := fun _ _ => J7j rfl rfl rfl)
   refine Xw ?_ (v := .int .u32 (xo4 (xo4 (an4 ((V0 kf4 (Y7 (bt l) 64) h i) 0) ((V0 kf4 (Y7 (bt l) 64) h i) 1)) (an4 ((V0 kf4 (Y7 (bt l) 64) h i) 0) ((V0 kf4 (Y7 (bt l) 64) h i) 2))) (an4 ((V0 kf4 (Y7 (bt l) 64) h i) 1) ((V0 kf4 (Y7 (bt l) 64) h i) 2)))) (hv := fun _ _ => J4w rfl rfl rfl)
   refine Xw ?_ (v := .int .u32 (rU4 (V0 kf4 (Y7 (bt l) 64) h i)))
   refine Xv ?_
   refine V7 fun α hE => ?_
   have hO := J0d hE
   replace J := J.o hO
   replace M := M.o hO
   replace N := N.o hO
   replace D := D.o hO
   replace K1 := Sl.off K1 hO f0
   replace G := G.o hO
   clear hO hE
   refine LN ?_
   go_upto_region 8 with fail
   refine wp_region_lit ?_
   refine Lv ?_
   refine Lv ?_
   refine Lw ?_ (v := .int .u32 (ad4 (rT4 kf4 (Y7 (bt l) 64) i (V0 kf4 (Y7 (bt l) 64) h i)) (rU4 (V0 kf4 (Y7 (bt l) 64) h i)))) (hv := J3k rfl rfl rfl)
   refine Lw ?_ (v := .pointer (some ⟨R, 0 + 0, none⟩)) (hv := J5 (m := 8) (by decide) (by omega) Tryz.underlying194 (by kernel_rfl) rfl rfl rfl)
   refine Lg ?_ D (v := .int .u32 ((V0 kf4 (Y7 (bt l) 64) h i) 0)) (hj := by rw [Nat.zero_add]; exact J3 _ _ _ _ (by omega))
   refine Lw ?_ (v := .pointer (some ⟨R, 0 + 1, none⟩)) (hv := J5 (m := 8) (by decide) (by omega) Tryz.underlying194 (by kernel_rfl) rfl rfl rfl)
   refine Lg ?_ D (v := .int .u32 ((V0 kf4 (Y7 (bt l) 64) h i) 1)) (hj := by rw [Nat.zero_add]; exact J3 _ _ _ _ (by omega))
   refine Lw ?_ (v := .pointer (some ⟨R, 0 + 2, none⟩)) (hv := J5 (m := 8) (by decide) (by omega) Tryz.underlying194 (by kernel_rfl) rfl rfl rfl)
   refine Lg ?_ D (v := .int .u32 ((V0 kf4 (Y7 (bt l) 64) h i) 2)) (hj := by rw [Nat.zero_add]; exact J3 _ _ _ _ (by omega))
   refine Lw ?_ (v := .pointer (some ⟨R, 0 + 3, none⟩)) (hv := J5 (m := 8) (by decide) (by omega) Tryz.underlying194 (by kernel_rfl) rfl rfl rfl)
   refine Lg ?_ D (v := .int .u32 ((V0 kf4 (Y7 (bt l) 64) h i) 3)) (hj := by rw [Nat.zero_add]; exact J3 _ _ _ _ (by omega))
   refine Lv ?_
   refine Lw ?_ (v := .int .u32 (ad4 ((V0 kf4 (Y7 (bt l) 64) h i) 3) (rT4 kf4 (Y7 (bt l) 64) i (V0 kf4 (Y7 (bt l) 64) h i)))) (hv := J3k rfl rfl rfl)
   refine Lw ?_ (v := .pointer (some ⟨R, 0 + 4, none⟩)) (hv := J5 (m := 8) (by decide) (by omega) Tryz.underlying194 (by kernel_rfl) rfl rfl rfl)
   refine Lg ?_ D (v := .int .u32 ((V0 kf4 (Y7 (bt l) 64) h i) 4)) (hj := by rw [Nat.zero_add]; exact J3 _ _ _ _ (by omega))
   refine Lw ?_ (v := .pointer (some ⟨R, 0 + 5, none⟩)) (hv := J5 (m := 8) (by decide) (by omega) Tryz.underlying194 (by kernel_rfl) rfl rfl rfl)
   refine Lg ?_ D (v := .int .u32 ((V0 kf4 (Y7 (bt l) 64) h i) 5)) (hj := by rw [Nat.zero_add]; exact J3 _ _ _ _ (by omega))
   refine Lw ?_ (v := .pointer (some ⟨R, 0 + 6, none⟩)) (hv := J5 (m := 8) (by decide) (by omega) Tryz.underlying194 (by kernel_rfl) rfl rfl rfl)
   refine Lg ?_ D (v := .int .u32 ((V0 kf4 (Y7 (bt l) 64) h i) 6)) (hj := by rw [Nat.zero_add]; exact J3 _ _ _ _ (by omega))
   refine Lw ?_ (v := .agg (J0 .u32 8 (V0 kf4 (Y7 (bt l) 64) h (i + 1)))) (hv := by first | rfl | (go_simp; rfl))
   refine LpA ?_ D (k := .u32) (n := 8) (f := V0 kf4 (Y7 (bt l) 64) h (i + 1))
   intro Z hO h_
   replace D : Blk Z R (J0 .u32 8 (V0 kf4 (Y7 (bt l) 64) h (i + 1))) 194 := h_
   clear h_
   replace J := J.p hO S
   replace M := M.p hO η
   replace N := N.p hO ν
   replace K1 := Sl.off K1 hO (f1 ρ)
   replace G := G.p hO θ
   clear hO
   refine J9 ?_
   go_wp2
   go_roundw
   case rel => exact ⟨i + 1, by omega, by go_num, G, J, M, N, D, K1⟩
   case measure => simp [intOf]; omega
  obtain rfl : i = 64 := by omega
  go_upto_region 4 with fail
  refine wp_region_lit ?_
  refine Lw ?_ (v := .bool false)
  refine J9 ?_
  go_wp2_with fail
  go_loopw [86] (fun ii wr => ∃ (i : Nat), (i ≤ 8) ∧ (ii = .int .i64 (i : Int)) ∧ Off [] w wr ∧ Blk wr X5 (J0 .u32 8 (mx4 h (V0 kf4 (Y7 (bt l) 64) h 64) i)) 194 ∧ Blk wr Y (J0 .u32 8 (fun _ => 0)) 194 ∧ Blk wr δ (J0 .u32 64 (Y7 (bt l) 64)) 231 ∧ Blk wr R (J0 .u32 8 (V0 kf4 (Y7 (bt l) 64) h 64)) 194 ∧ Sl wr (.slice (some adr) l.length c) l)
   (fun ii _ => 8 - (intOf ii).toNat)
  case atStart => exact ⟨0, Nat.zero_le _, rfl, G, (by rw [Z8c]; exact J), M, N, D, K1⟩
  case round =>
   obtain ⟨i, hi, rfl, G, J, M, N, D, K1⟩ := hrel
   obtain ⟨W9, X⟩ := J54 G
   subst X
   by_cases h8 : i < 8
   ·
    go_upto_region 11 with fail
    refine wp_region_lit ?_
    refine Lw ?_ (v := .bool true)
    refine J9 ?_
    go_upto_region 13 with fail
    refine Rx 8 ?_
    refine Xv ?_
    refine Xw ?_ (v := .pointer (some ⟨X5, 0 + i, none⟩)) (hv := fun _ _ => J5 (m := 8) (by decide) (by omega) Tryz.underlying194 (by kernel_rfl) rfl rfl rfl)
    refine Xc ?_ (v := .int .u32 ((mx4 h (V0 kf4 (Y7 (bt l) 64) h 64) i) i)) (K4 J) (hj := by rw [Nat.zero_add]; exact J3 _ _ _ _ (by omega))
    refine Xv ?_
    refine Xw ?_ (v := .pointer (some ⟨R, 0 + i, none⟩)) (hv := fun _ _ => J5 (m := 8) (by decide) (by omega) Tryz.underlying194 (by kernel_rfl) rfl rfl rfl)
    refine Xc ?_ (v := .int .u32 ((V0 kf4 (Y7 (bt l) 64) h 64) i)) (K4 D) (hj := by rw [Nat.zero_add]; exact J3 _ _ _ _ (by omega))
    refine Xw ?_ (v := .int .u32 (ad4 ((mx4 h (V0 kf4 (Y7 (bt l) 64) h 64) i) i) ((V0 kf4 (Y7 (bt l) 64) h 64) i))) (hv := fun _ _ => J3k rfl rfl rfl)
    refine Xw ?_ (v := .pointer (some ⟨X5, 0 + i, none⟩)) (hv := fun _ _ => J5 (m := 8) (by decide) (by omega) Tryz.underlying194 (by kernel_rfl) rfl rfl rfl)
    refine V7 fun α hE => ?_
    have hO := J0d hE
    replace J := J.o hO
    replace M := M.o hO
    replace N := N.o hO
    replace D := D.o hO
    replace K1 := Sl.off K1 hO f0
    replace G := G.o hO
    clear hO hE
    refine J42 (v := .int .u32 (ad4 ((mx4 h (V0 kf4 (Y7 (bt l) 64) h 64) i) i) ((V0 kf4 (Y7 (bt l) 64) h 64) i))) ⟨rfl, rfl⟩ (by rfl) rfl rfl rfl J (by rw [J1, Nat.zero_add]; omega) (by kernel_rfl) ?_
    (try simp only [Act.put, mA, mB, mC])
    intro Z hO h_
    rw [Nat.zero_add, V4] at h_
    replace J : Blk Z X5 (J0 .u32 8 (upd (mx4 h (V0 kf4 (Y7 (bt l) 64) h 64) i) i (ad4 ((mx4 h (V0 kf4 (Y7 (bt l) 64) h 64) i) i) ((V0 kf4 (Y7 (bt l) 64) h 64) i)))) 194 := h_
    clear h_
    replace M := M.p hO V.symm
    replace N := N.p hO U.symm
    replace D := D.p hO S.symm
    replace K1 := Sl.off K1 hO (f1 ξ)
    replace G := G.p hO κ
    clear hO
    refine LN ?_
    go_wp2
    go_roundw
    case rel => exact ⟨i + 1, by omega, by go_num, G, (by rw [← Z8b]; exact J), M, N, D, K1⟩
    case measure => simp [intOf]; omega
   obtain rfl : i = 8 := by omega
   rw [Y26] at J
   go_upto_region 11 with fail
   refine wp_region_lit ?_
   refine Lw ?_ (v := .bool false)
   refine J9 ?_
   go_upto_region 15 with fail
   refine wp_region_lit ?_
   refine L0A ?_ J
   refine LpA ?_ M (k := .u32) (n := 8) (f := J6h h (bt l))
   intro α hO h_
   replace M : Blk α Y (J0 .u32 8 (J6h h (bt l))) 194 := h_
   clear h_
   replace G := G.p hO μ
   clear hO
   refine J9 ?_
   go_wp2
   refine bodyPost_ret (Z6 rfl rfl M (by kernel_rfl) (by rw [J1]; kernel_rfl)) rfl ⟨rfl, G.ext⟩
end
end Go.Proofs.YtejkmhgkkibafaaGreatDoor
