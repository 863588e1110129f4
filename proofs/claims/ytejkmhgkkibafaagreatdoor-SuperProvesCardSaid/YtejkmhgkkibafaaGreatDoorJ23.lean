/- sha2.turn, small, big: a word of 32 bits turned to the right, mixed. No conditions. sha2.spread: a block as 64 words of 32 bits. Conditions: the slice has 64 bytes. sha2.press: a block worked into eight words. Conditions: the slice has 128 bytes; the cells of the two tables hold their numbers. -/
import Derived.Test.YtejkmhgkkibafaaGreatDoorJ22
import Derived.Test.YtejkmhgkkibafaaGreatDoorGc
set_option linter.unusedSimpArgs false
set_option linter.unusedVariables false
namespace Go.Proofs.YtejkmhgkkibafaaGreatDoor
section
set_option maxHeartbeats 1500000
set_option maxRecDepth 100000
open Go.RowKit
attribute [local irreducible] wpList

theorem V3v (n : Nat) (h1 : 1 ≤ n) (h2 : n ≤ 31) : bits .and .u64 (18446744073709551616 - (n : Int)) 31 = ((32 - n : Nat) : Int) := by
  obtain ⟨m, hm⟩ : ∃ m : Nat, m = 18446744073709551616 - n := ⟨_, rfl⟩
  have e : (18446744073709551616 - (n : Int)) = (m : Int) := by omega
  have h63 : (BitVec.ofInt 64 31).toNat = 2 ^ 5 - 1 := by decide
  have key : (BitVec.ofInt 64 (m : Int) &&& BitVec.ofInt 64 31).toNat = m % 2 ^ 5 := by
    rw [BitVec.toNat_and, BitVec.toNat_ofInt, h63, Nat.and_two_pow_sub_one_eq_mod]
    omega
  rw [e]
  show IntKind.u64.wrap ((BitVec.ofInt 64 (m : Int) &&& BitVec.ofInt 64 31).toNat : Nat) = _
  rw [key, IntKind.wrap_u64]
  omega
def J1f (p : Int) (a b c : Nat) : Int := xo4 (xo4 (rt4 p a) (rt4 p b)) (sr4 p c)
def J8s (p : Int) (a b c : Nat) : Int := xo4 (xo4 (rt4 p a) (rt4 p b)) (rt4 p c)

theorem Y3w (p : Int) (n : Nat) (h1 : 1 ≤ n) (h2 : n ≤ 31) (w : World) :
  Calls Tryz.prog 184 #[.int .u32 p, .int .i64 (-(n : Int))] w fun e w' => Ret (.int .u32 (rt4 p n)) w w' e := by
 have n0 : (1 : Int) ≤ (n : Int) := by omega
 have n1 : (n : Int) ≤ 31 := by omega
 have ha := V3v n h1 h2
 have off0 : Off [] w w := Off.refl _ _
 go_enter Tryz.func184, Tryz.ntmps184
 go_upto_region 1 with fail
 refine wp_region_lit ?_
 refine Lv ?_
 refine Lw ?_ (v := .int .u64 (18446744073709551616 - (n : Int))) (hv := by go_simp; (try simp only [IntKind.wrap_u64, IntKind.wrap_i64]); (try omega))
 refine Lw ?_ (v := .int .u64 (((32 - n : Nat) : Int))) (hv := by first | (go_simp; done) | (go_simp; (try rw [ha]); (try omega)))
 refine Lv ?_
 refine J3 ?_
 go_upto_region 2 with fail
 refine wp_region_lit ?_
 refine Lv ?_
 refine Lv ?_
 refine Lw ?_ (v := .int .u32 (sl4 p (32 - n))) (hv := Z01 (n := (32 - n)) (by omega) rfl rfl rfl)
 refine Lv ?_
 refine Lv ?_
 refine Lw ?_ (v := .int .u64 ((n : Int))) (hv := by go_simp; (try simp only [IntKind.wrap_u64, IntKind.wrap_i64]); (try omega))
 refine Lw ?_ (v := .int .u32 (sr4 p n)) (hv := J9d (n := n) (by omega) rfl rfl rfl)
 refine Lw ?_ (v := .int .u32 (oo4 (sl4 p (32 - n)) (sr4 p n))) (hv := Z3x rfl rfl rfl)
 refine Lv ?_
 refine J3 ?_
 go_wp2
 exact bodyPost_ret (v := .int .u32 (oo4 (sl4 p (32 - n)) (sr4 p n))) (by simp only [results, Tryz.results184]; go_simp) rfl ⟨congrArg (fun z => Ending.returned (.int .u32 z)) (Y09 _ _), off0.ext⟩
theorem Q1j (p : Int) (n : Nat) (h1 : 1 ≤ n) (h2 : n ≤ 31) (w : World) :
  Calls Tryz.prog 178 #[.int .u32 p, .int .i64 (n : Int)] w fun e w' => Ret (.int .u32 (rt4 p n)) w w' e := by
 have n0 : (1 : Int) ≤ (n : Int) := by omega
 have n1 : (n : Int) ≤ 31 := by omega
 have off0 : Off [] w w := Off.refl _ _
 go_enter Tryz.func178, Tryz.ntmps178
 go_upto_region 1 with fail
 refine wp_region_lit ?_
 refine Lv ?_
 refine Lv ?_
 refine Lw ?_ (v := .int .i64 (-(n : Int))) (hv := by go_simp; (try simp only [IntKind.wrap_u64, IntKind.wrap_i64]); (try omega))
 refine Lr ?_ (Y3w p n h1 h2 w)
 intro W1 hO
 replace off0 := off0.o hO
 clear hO
 refine Lv ?_
 refine J3 ?_
 go_wp2
 exact bodyPost_ret (v := .int .u32 (rt4 p n)) (by simp only [results, Tryz.results178]; go_simp) rfl ⟨rfl, off0.ext⟩
theorem Y0a (p : Int) (a b c : Nat) (ha : 1 ≤ a ∧ a ≤ 31) (hb : 1 ≤ b ∧ b ≤ 31) (hc : 1 ≤ c ∧ c ≤ 31) (w : World) :
  Calls Tryz.prog 160 #[.int .u32 p, .int .i64 (a : Int), .int .i64 (b : Int), .int .i64 (c : Int)] w fun e w' => Ret (.int .u32 (J8s p a b c)) w w' e := by
 have off0 : Off [] w w := Off.refl _ _
 go_enter Tryz.func160, Tryz.ntmps160
 go_upto_region 1 with fail
 refine wp_region_lit ?_
 refine Lv ?_
 refine Lv ?_
 refine Lr ?_ (Q1j p a (by omega) (by omega) w)
 intro W1 hO
 replace off0 := off0.o hO
 clear hO
 refine Lv ?_
 refine Lv ?_
 refine Lr ?_ (Q1j p b (by omega) (by omega) W1)
 intro W2 hO
 replace off0 := off0.o hO
 clear hO
 refine Lw ?_ (v := .int .u32 (xo4 (rt4 p a) (rt4 p b))) (hv := J6j rfl rfl rfl)
 refine Lv ?_
 refine Lv ?_
 refine Lr ?_ (Q1j p c (by omega) (by omega) W2)
 intro W3 hO
 replace off0 := off0.o hO
 clear hO
 refine Lw ?_ (v := .int .u32 (xo4 (xo4 (rt4 p a) (rt4 p b)) (rt4 p c))) (hv := J6j rfl rfl rfl)
 refine Lv ?_
 refine J3 ?_
 go_wp2
 exact bodyPost_ret (v := .int .u32 (xo4 (xo4 (rt4 p a) (rt4 p b)) (rt4 p c))) (by simp only [results, Tryz.results160]; go_simp) rfl ⟨rfl, off0.ext⟩
theorem Z02 (p : Int) (a b c : Nat) (ha : 1 ≤ a ∧ a ≤ 31) (hb : 1 ≤ b ∧ b ≤ 31) (hc : 1 ≤ c ∧ c ≤ 31) (w : World) :
  Calls Tryz.prog 177 #[.int .u32 p, .int .i64 (a : Int), .int .i64 (b : Int), .int .i64 (c : Int)] w fun e w' => Ret (.int .u32 (J1f p a b c)) w w' e := by
 have off0 : Off [] w w := Off.refl _ _
 go_enter Tryz.func177, Tryz.ntmps177
 go_upto_region 1 with fail
 refine Rx 12 ?_
 refine Xv ?_
 refine Xv ?_
 refine Xf ?_ (fun W hW => Q1j p a (by omega) (by omega) W)
 refine Xv ?_
 refine Xv ?_
 refine Xf ?_ (fun W hW => Q1j p b (by omega) (by omega) W)
 refine Xw ?_ (v := .int .u32 (xo4 (rt4 p a) (rt4 p b))) (hv := fun _ _ => J6j rfl rfl rfl)
 refine Xv ?_
 refine Xv ?_
 refine Xw ?_ (v := .int .u32 (sr4 p c)) (hv := fun _ _ => J9d (n := c) (by omega) rfl rfl rfl)
 refine Xw ?_ (v := .int .u32 (xo4 (xo4 (rt4 p a) (rt4 p b)) (sr4 p c))) (hv := fun _ _ => J6j rfl rfl rfl)
 refine Xv ?_
 refine Z4 fun W1 hE => ?_
 have hO := Z7 hE
 replace off0 := off0.o hO
 clear hO hE
 refine LN ?_
 go_wp2
 exact bodyPost_ret (v := .int .u32 (xo4 (xo4 (rt4 p a) (rt4 p b)) (sr4 p c))) (by simp only [results, Tryz.results177]; go_simp) rfl ⟨rfl, off0.ext⟩
end

section
set_option maxHeartbeats 1500000
set_option maxRecDepth 100000
open Go.RowKit
attribute [local irreducible] wpList

theorem Y3x {w : World} {o : Oper} {a : Act} {x : Operand} {c : UInt8} (ho : o.op = .convert 5 193 x) (hx : a.eval x = .int .u8 (c.toNat : Int)) : (execOp a.eval o).run Tryz.prog w = .ok (.value (.int .u32 (c.toNat : Int))) w := by
  have hc := c.toNat_lt
  have hw : IntKind.wrap .u32 (c.toNat : Int) = (c.toNat : Int) := by rw [IntKind.wrap_u32]; omega
  simp [execOp, ho, hx, convert, run_underlying Tryz.underlying5, run_underlying Tryz.underlying193, Sem.run_bind, Conv.intToInt, hw]
theorem Z5w {w : World} {o : Oper} {a : Act} {x y : Operand} {adr : Addr} {n c : Nat} (hl : 64 ≤ n) (hn : n ≤ c) (ho : o.op = .slice 22 x none (some y) none) (hx : a.eval x = .slice (some adr) n c) (hy : a.eval y = .int .i64 64) : (execOp a.eval o).run Tryz.prog w = .ok (.value (.slice (some adr) 64 c)) w := by
  have hnc : 64 ≤ c := by omega
  have hc0 : ¬ c = 0 := by omega
  have h1 := J5x
  have hadd : adr.add 0 = adr := by unfold Addr.add; simp
  cases hq : Tryz.prog.info? 5 with
  | none => simp [hq] at h1
  | some i => simp [execOp, ho, hx, hy, Instr.sliceAt, Instr.slice, Instr.sliceBounds, Instr.sliceBound, asIntOf, run_underlying Tryz.underlying22, Sem.run_bind, sizeOf, typeInfo, hq, hnc, hc0, hadd]; intro h_; omega
def J4a (b : Nat → Int) (i : Nat) : Nat → Int
  | 0 => 0
  | k + 1 => oo4 (sl4 (J4a b i k) 8) (b (4 * i + k))
def sg4 (f : Nat → Int) (i : Nat) : Int := ad4 (ad4 (ad4 (f (i - 16)) (J1f (f (i - 15)) 7 18 3)) (f (i - 7))) (J1f (f (i - 2)) 17 19 10)
def J9 (b : Nat → Int) : Nat → Nat → Int
  | 0 => fun _ => 0
  | i + 1 => upd (J9 b i) i (if i < 16 then J4a b i 4 else sg4 (J9 b i) i)
theorem Z3y {b : Nat → Int} {i : Nat} (h : 16 ≤ i) : upd (J9 b i) i (sg4 (J9 b i) i) = J9 b (i + 1) := by
  show _ = upd (J9 b i) i (if i < 16 then J4a b i 4 else sg4 (J9 b i) i)
  rw [if_neg (by omega)]
theorem Z3z (b : Nat → Int) : ∀ i, i ≤ 16 → ∀ j, J9 b i j = if j < i then J4a b j 4 else 0
  | 0, _, j => by simp [J9]
  | i + 1, h, j => by
    show upd (J9 b i) i (if i < 16 then J4a b i 4 else sg4 (J9 b i) i) j = _
    rw [if_pos (by omega)]
    unfold upd
    by_cases hj : j = i
    · rw [if_pos hj, if_pos (by omega), hj]
    · rw [if_neg hj, Z3z b i (by omega) j]
      by_cases hl : j < i
      · rw [if_pos hl, if_pos (by omega)]
      · rw [if_neg hl, if_neg (by omega)]
def J8h (b : Nat → Int) (n j : Nat) : Int := if j < n / 4 then J4a b j 4 else if j = n / 4 then J4a b j (n % 4) else 0
theorem Z5x (b : Nat → Int) (n : Nat) : upd (J8h b n) (n / 4) (oo4 (sl4 (J8h b n (n / 4)) 8) (b n)) = J8h b (n + 1) := by
  funext j
  have e : J8h b n (n / 4) = J4a b (n / 4) (n % 4) := by unfold J8h; rw [if_neg (by omega), if_pos rfl]
  have hb : b n = b (4 * (n / 4) + n % 4) := by rw [Nat.div_add_mod]
  rw [e, hb]
  show (if j = n / 4 then J4a b (n / 4) (n % 4 + 1) else J8h b n j) = J8h b (n + 1) j
  unfold J8h
  by_cases hm : n % 4 = 3
  · have h1 : (n + 1) / 4 = n / 4 + 1 := by omega
    have h2 : (n + 1) % 4 = 0 := by omega
    rw [h1, h2, hm]
    by_cases hj : j = n / 4
    · rw [if_pos hj, if_pos (by omega), hj]
    rw [if_neg hj]
    by_cases hl : j < n / 4
    · rw [if_pos hl, if_pos (by omega)]
    rw [if_neg hl, if_neg hj, if_neg (by omega)]
    split
    · rfl
    rfl
  have h1 : (n + 1) / 4 = n / 4 := by omega
  have h2 : (n + 1) % 4 = n % 4 + 1 := by omega
  rw [h1, h2]
  by_cases hj : j = n / 4
  · rw [if_pos hj, if_neg (by omega), if_pos hj, hj]
  rw [if_neg hj]
  by_cases hl : j < n / 4
  · rw [if_pos hl, if_pos hl]
  rw [if_neg hl, if_neg hj, if_neg hl, if_neg hj]
theorem Y0b (b : Nat → Int) : J8h b 64 = J9 b 16 := by
  funext j
  rw [Z3z b 16 (Nat.le_refl _) j]
  unfold J8h
  by_cases h : j < 16
  · rw [if_pos (by omega), if_pos h]
  rw [if_neg (by omega), if_neg h]
  split
  · rename_i h2; rw [show 64 % 4 = 0 by rfl]; rfl
  rfl
theorem Z5y (b : Nat → Int) : J8h b 0 = fun _ => 0 := by
  funext j
  unfold J8h
  rw [if_neg (by omega)]
  split <;> rfl

theorem Z5z (l : List UInt8) (adr : Addr) (c : Nat) (hl : 64 ≤ l.length) (hc : l.length ≤ c) (w : World) (hs : Sl w (.slice (some adr) l.length c) l) :
  Calls Tryz.prog 159 #[.slice (some adr) l.length c] w fun e w' => Ret (.agg (J0 .u32 64 (J9 (bt l) 64))) w w' e := by
 have Z0 := hs
 have off0 : Off [] w w := Off.refl _ _
 go_enter Tryz.func159, Tryz.ntmps159
 go_upto_region 0 with fail
 refine wp_region_lit ?_
 refine Ln ?_ (z := J0 .u32 64 (fun _ => 0)) (t := 231)
 intro J0a W1 J0l hO h_
 have J0r := fbn off0 J0l
 replace Z0 := Sl.off Z0 hO f0
 replace off0 := off0.o hO
 have k_t2 := h_
 clear hO h_ J0l
 refine J3 ?_
 go_upto_region 1 with fail
 refine wp_region_lit ?_
 refine Ln ?_ (z := J0 .u32 64 (fun _ => 0)) (t := 231)
 intro J1z W2 J20 hO h_
 have nq_t2_t3 := bn k_t2 J20
 have Q14 := J2k (Sl.lt Z0) J20
 have J90 := fbn off0 J20
 replace k_t2 := k_t2.o hO
 replace Z0 := Sl.off Z0 hO f0
 replace off0 := off0.o hO
 have k_t3 := h_
 clear hO h_ J20
 refine J3 ?_
 go_upto_region 2 with fail
 refine wp_region_lit ?_
 refine Lv ?_
 refine Lw ?_ (v := .slice (some adr) 64 c) (hv := Z5w hl hc rfl rfl rfl)
 refine Lw ?_ (v := .int .i64 64)
 refine Lw ?_ (v := .int .i64 0)
 refine J3 ?_
 go_wp2_with fail
 go_loopw [9] (fun ii wr => ∃ (n : Nat), (n ≤ 64) ∧ (ii = .int .i64 (n : Int)) ∧ Off [] w wr ∧ Blk wr J0a (J0 .u32 64 (fun _ => 0)) 231 ∧ Blk wr J1z (J0 .u32 64 (J8h (bt l) n)) 231 ∧ Sl wr (.slice (some adr) l.length c) l)
  (fun ii _ => 64 - (intOf ii).toNat)
 case atStart => exact ⟨0, Nat.zero_le _, rfl, off0, k_t2, (by rw [Z5y]; exact k_t3), Z0⟩
 case round =>
  obtain ⟨n, hn, rfl, off0, k_t2, k_t3, Z0⟩ := hrel
  obtain ⟨W3, eW_⟩ := J67 off0
  subst eW_
  by_cases h128 : n < 64
  ·
   have _f := h128
   go_upto_region 3 with fail
   refine wp_region_lit ?_
   refine Lw ?_ (v := .bool true)
   refine J3 ?_
   go_upto_region 5 with fail
   refine Rx 14 ?_
   refine Xv ?_
   refine Xw ?_ (v := .int .i64 (((n / 4 : Nat) : Int))) (hv := fun _ _ => by go_simp; (try simp only [IntKind.wrap_u64, IntKind.wrap_i64]); (try omega))
   refine Xv ?_
   refine Xw ?_ (v := .int .i64 (((n / 4 : Nat) : Int))) (hv := fun _ _ => by go_simp; (try simp only [IntKind.wrap_u64, IntKind.wrap_i64]); (try omega))
   refine Xw ?_ (v := .pointer (some ⟨J1z, 0 + (n / 4), none⟩)) (hv := fun _ _ => J5 (m := 64) (by decide) (by omega) Tryz.underlying231 (by kernel_rfl) rfl rfl rfl)
   refine Xc ?_ (v := .int .u32 ((J8h (bt l) n) (n / 4))) (V5 k_t3) (hj := by rw [Nat.zero_add]; exact J6 _ _ _ _ (by omega))
   refine Xw ?_ (v := .int .u32 (sl4 ((J8h (bt l) n) (n / 4)) 8)) (hv := fun _ _ => Z01 (n := 8) (by decide) rfl rfl rfl)
   refine Xv ?_
   refine Xv ?_
   refine Xw ?_ (v := .pointer (some (adr.add n))) (hv := fun W hW => Q73 (j := n) (by omega) rfl rfl rfl)
   refine Z7b (by rfl) rfl rfl (fun W hW => K5 (Q3x Z0 (J2t (by omega))) hW) (by kernel_rfl) ?_
   (try simp only [Act.put, mA, mB, mC])
   refine Xw ?_ (v := .int .u32 (bt l n)) (hv := fun _ _ => by exact Y3x rfl rfl)
   refine Xw ?_ (v := .int .u32 (oo4 (sl4 ((J8h (bt l) n) (n / 4)) 8) (bt l n))) (hv := fun _ _ => Z3x rfl rfl rfl)
   refine Xw ?_ (v := .pointer (some ⟨J1z, 0 + (n / 4), none⟩)) (hv := fun _ _ => J5 (m := 64) (by decide) (by omega) Tryz.underlying231 (by kernel_rfl) rfl rfl rfl)
   refine Z4 fun W4 hE => ?_
   have hO := Z7 hE
   replace k_t2 := k_t2.o hO
   replace k_t3 := k_t3.o hO
   replace Z0 := Sl.off Z0 hO f0
   replace off0 := off0.o hO
   clear hO hE
   refine J28 (v := .int .u32 (oo4 (sl4 ((J8h (bt l) n) (n / 4)) 8) (bt l n))) ⟨rfl, rfl⟩ (by rfl) rfl rfl rfl k_t3 (by rw [J2, Nat.zero_add]; omega) (by kernel_rfl) ?_
   (try simp only [Act.put, mA, mB, mC])
   intro W5 hO h_
   rw [Nat.zero_add, K0] at h_
   replace k_t3 : Blk W5 J1z (J0 .u32 64 (upd (J8h (bt l) n) (n / 4) (oo4 (sl4 ((J8h (bt l) n) (n / 4)) 8) (bt l n)))) 231 := h_
   clear h_
   replace k_t2 := k_t2.p hO nq_t2_t3
   replace Z0 := Sl.off Z0 hO (f1 Q14)
   replace off0 := off0.p hO J90
   clear hO
   refine LN ?_
   go_wp2
   go_roundw
   case rel => exact ⟨n + 1, by omega, by go_num, off0, k_t2, (by rw [← Z5x]; exact k_t3), Z0⟩
   case measure => simp [intOf]; omega
  have _f := h128
  obtain rfl : n = 64 := by omega
  rw [Y0b] at k_t3
  go_upto_region 3 with fail
  refine wp_region_lit ?_
  refine Lw ?_ (v := .bool false)
  refine J3 ?_
  go_wp2_with fail
  go_loopw [5] (fun ii wr => ∃ (i : Nat), (16 ≤ i ∧ i ≤ 64) ∧ (ii = .int .i64 (i : Int)) ∧ Off [] w wr ∧ Blk wr J0a (J0 .u32 64 (fun _ => 0)) 231 ∧ Blk wr J1z (J0 .u32 64 (J9 (bt l) i)) 231 ∧ Sl wr (.slice (some adr) l.length c) l)
   (fun ii _ => 64 - (intOf ii).toNat)
  case atStart => exact ⟨16, ⟨Nat.le_refl _, by decide⟩, rfl, off0, k_t2, k_t3, Z0⟩
  case round =>
   obtain ⟨i, ⟨hi, hi2⟩, rfl, off0, k_t2, k_t3, Z0⟩ := hrel
   obtain ⟨W4, eW_⟩ := J67 off0
   subst eW_
   by_cases h80 : i < 64
   ·
    have _f := h80
    go_upto_region 8 with fail
    refine wp_region_lit ?_
    refine Lv ?_
    refine Lw ?_ (v := .bool true)
    refine J3 ?_
    go_upto_region 10 with fail
    refine Rx 23 ?_
    refine Xv ?_
    refine Xv ?_
    refine Xw ?_ (v := .int .i64 (((i - 16 : Nat) : Int))) (hv := fun _ _ => by go_simp; (try simp only [IntKind.wrap_u64, IntKind.wrap_i64]); (try omega))
    refine Xw ?_ (v := .pointer (some ⟨J1z, 0 + (i - 16), none⟩)) (hv := fun _ _ => J5 (m := 64) (by decide) (by omega) Tryz.underlying231 (by kernel_rfl) rfl rfl rfl)
    refine Xc ?_ (v := .int .u32 ((J9 (bt l) i) (i - 16))) (V5 k_t3) (hj := by rw [Nat.zero_add]; exact J6 _ _ _ _ (by omega))
    refine Xv ?_
    refine Xw ?_ (v := .int .i64 (((i - 15 : Nat) : Int))) (hv := fun _ _ => by go_simp; (try simp only [IntKind.wrap_u64, IntKind.wrap_i64]); (try omega))
    refine Xw ?_ (v := .pointer (some ⟨J1z, 0 + (i - 15), none⟩)) (hv := fun _ _ => J5 (m := 64) (by decide) (by omega) Tryz.underlying231 (by kernel_rfl) rfl rfl rfl)
    refine Xc ?_ (v := .int .u32 ((J9 (bt l) i) (i - 15))) (V5 k_t3) (hj := by rw [Nat.zero_add]; exact J6 _ _ _ _ (by omega))
    refine Xf ?_ (fun W hW => Z02 ((J9 (bt l) i) (i - 15)) 7 18 3 (by decide) (by decide) (by decide) W)
    refine Xw ?_ (v := .int .u32 (ad4 ((J9 (bt l) i) (i - 16)) (J1f ((J9 (bt l) i) (i - 15)) 7 18 3))) (hv := fun _ _ => J4n rfl rfl rfl)
    refine Xv ?_
    refine Xw ?_ (v := .int .i64 (((i - 7 : Nat) : Int))) (hv := fun _ _ => by go_simp; (try simp only [IntKind.wrap_u64, IntKind.wrap_i64]); (try omega))
    refine Xw ?_ (v := .pointer (some ⟨J1z, 0 + (i - 7), none⟩)) (hv := fun _ _ => J5 (m := 64) (by decide) (by omega) Tryz.underlying231 (by kernel_rfl) rfl rfl rfl)
    refine Xc ?_ (v := .int .u32 ((J9 (bt l) i) (i - 7))) (V5 k_t3) (hj := by rw [Nat.zero_add]; exact J6 _ _ _ _ (by omega))
    refine Xw ?_ (v := .int .u32 (ad4 (ad4 ((J9 (bt l) i) (i - 16)) (J1f ((J9 (bt l) i) (i - 15)) 7 18 3)) ((J9 (bt l) i) (i - 7)))) (hv := fun _ _ => J4n rfl rfl rfl)
    refine Xv ?_
    refine Xw ?_ (v := .int .i64 (((i - 2 : Nat) : Int))) (hv := fun _ _ => by go_simp; (try simp only [IntKind.wrap_u64, IntKind.wrap_i64]); (try omega))
    refine Xw ?_ (v := .pointer (some ⟨J1z, 0 + (i - 2), none⟩)) (hv := fun _ _ => J5 (m := 64) (by decide) (by omega) Tryz.underlying231 (by kernel_rfl) rfl rfl rfl)
    refine Xc ?_ (v := .int .u32 ((J9 (bt l) i) (i - 2))) (V5 k_t3) (hj := by rw [Nat.zero_add]; exact J6 _ _ _ _ (by omega))
    refine Xf ?_ (fun W hW => Z02 ((J9 (bt l) i) (i - 2)) 17 19 10 (by decide) (by decide) (by decide) W)
    refine Xw ?_ (v := .int .u32 (ad4 (ad4 (ad4 ((J9 (bt l) i) (i - 16)) (J1f ((J9 (bt l) i) (i - 15)) 7 18 3)) ((J9 (bt l) i) (i - 7))) (J1f ((J9 (bt l) i) (i - 2)) 17 19 10))) (hv := fun _ _ => J4n rfl rfl rfl)
    refine Xw ?_ (v := .pointer (some ⟨J1z, 0 + i, none⟩)) (hv := fun _ _ => J5 (m := 64) (by decide) (by omega) Tryz.underlying231 (by kernel_rfl) rfl rfl rfl)
    refine Z4 fun W5 hE => ?_
    have hO := Z7 hE
    replace k_t2 := k_t2.o hO
    replace k_t3 := k_t3.o hO
    replace Z0 := Sl.off Z0 hO f0
    replace off0 := off0.o hO
    clear hO hE
    refine J28 (v := .int .u32 (ad4 (ad4 (ad4 ((J9 (bt l) i) (i - 16)) (J1f ((J9 (bt l) i) (i - 15)) 7 18 3)) ((J9 (bt l) i) (i - 7))) (J1f ((J9 (bt l) i) (i - 2)) 17 19 10))) ⟨rfl, rfl⟩ (by rfl) rfl rfl rfl k_t3 (by rw [J2, Nat.zero_add]; omega) (by kernel_rfl) ?_
    (try simp only [Act.put, mA, mB, mC])
    intro W6 hO h_
    rw [Nat.zero_add, K0] at h_
    replace k_t3 : Blk W6 J1z (J0 .u32 64 (upd (J9 (bt l) i) i (ad4 (ad4 (ad4 ((J9 (bt l) i) (i - 16)) (J1f ((J9 (bt l) i) (i - 15)) 7 18 3)) ((J9 (bt l) i) (i - 7))) (J1f ((J9 (bt l) i) (i - 2)) 17 19 10)))) 231 := h_
    clear h_
    replace k_t2 := k_t2.p hO nq_t2_t3
    replace Z0 := Sl.off Z0 hO (f1 Q14)
    replace off0 := off0.p hO J90
    clear hO
    refine LN ?_
    go_wp2
    go_roundw
    case rel => exact ⟨i + 1, ⟨by omega, by omega⟩, by go_num, off0, k_t2, (by rw [← Z3y hi]; exact k_t3), Z0⟩
    case measure => simp [intOf]; omega
   have _f := h80
   obtain rfl : i = 64 := by omega
   go_upto_region 8 with fail
   refine wp_region_lit ?_
   refine Lv ?_
   refine Lw ?_ (v := .bool false)
   refine J3 ?_
   go_upto_region 11 with fail
   refine wp_region_lit ?_
   refine L0A ?_ k_t3
   refine LpA ?_ k_t2 (k := .u32) (n := 64) (f := J9 (bt l) 64)
   intro W5 hO h_
   replace k_t2 : Blk W5 J0a (J0 .u32 64 (J9 (bt l) 64)) 231 := h_
   clear h_
   replace off0 := off0.p hO J0r
   clear hO
   refine J3 ?_
   go_wp2
   refine bodyPost_ret (Y0 rfl rfl k_t2 (by kernel_rfl) (by rw [J2]; kernel_rfl)) rfl ⟨rfl, off0.ext⟩
end

section
set_option maxHeartbeats 1500000
set_option maxRecDepth 100000
open Go.RowKit
attribute [local irreducible] wpList

def kk4 : List Int := [1116352408, 1899447441, 3049323471, 3921009573, 961987163, 1508970993, 2453635748, 2870763221, 3624381080, 310598401, 607225278, 1426881987, 1925078388, 2162078206, 2614888103, 3248222580, 3835390401, 4022224774, 264347078, 604807628, 770255983, 1249150122, 1555081692, 1996064986, 2554220882, 2821834349, 2952996808, 3210313671, 3336571891, 3584528711, 113926993, 338241895, 666307205, 773529912, 1294757372, 1396182291, 1695183700, 1986661051, 2177026350, 2456956037, 2730485921, 2820302411, 3259730800, 3345764771, 3516065817, 3600352804, 4094571909, 275423344, 430227734, 506948616, 659060556, 883997877, 958139571, 1322822218, 1537002063, 1747873779, 1955562222, 2024104815, 2227730452, 2361852424, 2428436474, 2756734187, 3204031479, 3329325298]
def hh4 : List Int := [1779033703, 3144134277, 1013904242, 2773480762, 1359893119, 2600822924, 528734635, 1541459225]
def Z6 (i : Nat) : Int := kk4.getD i 0
def hf4 (i : Nat) : Int := hh4.getD i 0
def GS4 (w : World) : Prop := Rd w 11 (J0 .u32 64 Z6) ∧ Rd w 4 (J0 .u32 8 hf4)
theorem J1a {w W : World} (h : GS4 w) (e : Ext w W) : GS4 W := ⟨h.1.ext e, h.2.ext e⟩
def rT4 (k w : Nat → Int) (i : Nat) (v : Nat → Int) : Int := ad4 (ad4 (ad4 (ad4 (v 7) (J8s (v 4) 6 11 25)) (xo4 (an4 (v 4) (v 5)) (an4 (nt4 (v 4)) (v 6)))) (k i)) (w i)
def rU4 (v : Nat → Int) : Int := ad4 (J8s (v 0) 2 13 22) (xo4 (xo4 (an4 (v 0) (v 1)) (an4 (v 0) (v 2))) (an4 (v 1) (v 2)))
def Z0r (k w : Nat → Int) (i : Nat) (v : Nat → Int) : Nat → Int
  | 0 => ad4 (rT4 k w i v) (rU4 v)
  | 1 => v 0
  | 2 => v 1
  | 3 => v 2
  | 4 => ad4 (v 3) (rT4 k w i v)
  | 5 => v 4
  | 6 => v 5
  | 7 => v 6
  | _ => 0
def J8 (k w v : Nat → Int) : Nat → Nat → Int
  | 0 => v
  | i + 1 => Z0r k w i (J8 k w v i)
def J79 (h b : Nat → Int) (j : Nat) : Int := ad4 (h j) (J8 Z6 (J9 b 64) h 64 j)
def mx4 (h v : Nat → Int) (i j : Nat) : Int := if j < i then ad4 (h j) (v j) else h j
theorem Z03 (h v : Nat → Int) (i : Nat) : upd (mx4 h v i) i (ad4 (mx4 h v i i) (v i)) = mx4 h v (i + 1) := by
  funext j
  unfold upd mx4
  by_cases hj : j = i
  · subst hj; rw [if_pos rfl, if_neg (by omega), if_pos (by omega)]
  rw [if_neg hj]
  by_cases hl : j < i
  · rw [if_pos hl, if_pos (by omega)]
  rw [if_neg hl, if_neg (by omega)]
theorem Z04 (h v : Nat → Int) : mx4 h v 0 = h := by funext j; unfold mx4; rw [if_neg (by omega)]
theorem Y3y (h b : Nat → Int) : J0 .u32 8 (mx4 h (J8 Z6 (J9 b 64) h 64) 8) = J0 .u32 8 (J79 h b) := J07 _ _ _ _ fun j hj => by unfold mx4 J79; rw [if_pos hj]

theorem Y0c (h : Nat → Int) (l : List UInt8) (adr : Addr) (c : Nat) (hl : 64 ≤ l.length) (hlc : l.length ≤ c) (w : World) (hs : Sl w (.slice (some adr) l.length c) l) (hG : GS4 w) :
  Calls Tryz.prog 128 #[.agg (J0 .u32 8 h), .slice (some adr) l.length c] w fun e w' => Ret (.agg (J0 .u32 8 (J79 h (bt l)))) w w' e := by
 have HG := Lib.hid hG
 clear hG
 have Z0 := hs
 have off0 : Off [] w w := Off.refl _ _
 go_enter Tryz.func128, Tryz.ntmps128
 go_upto_region 0 with fail
 refine wp_region_lit ?_
 refine Ln ?_ (z := J0 .u32 8 h) (t := 194)
 intro J0a W1 J0l hO h_
 have Q77 := J2k (Sl.lt Z0) J0l
 have J0r := fbn off0 J0l
 replace Z0 := Sl.off Z0 hO f0
 replace off0 := off0.o hO
 have k_t2 := h_
 clear hO h_ J0l
 refine Ln ?_ (z := J0 .u32 8 (fun _ => 0)) (t := 194)
 intro Q06 W2 J2l hO h_
 have nq_t2_t4 := bn k_t2 J2l
 have J4r := fbn off0 J2l
 replace k_t2 := k_t2.o hO
 replace Z0 := Sl.off Z0 hO f0
 replace off0 := off0.o hO
 have k_t4 := h_
 clear hO h_ J2l
 refine J3 ?_
 go_upto_region 1 with fail
 refine wp_region_lit ?_
 refine Lv ?_
 refine Lr ?_ (Z5z l adr c hl hlc W2 Z0)
 intro W3 hO
 replace k_t2 := k_t2.o hO
 replace k_t4 := k_t4.o hO
 replace Z0 := Sl.off Z0 hO f0
 replace off0 := off0.o hO
 clear hO
 refine LnA ?_ (z := J0 .u32 64 (fun _ => 0)) (t := 231) (k := .u32) (n := 64) (f := J9 (bt l) 64)
 intro J47 W5 J1k hO h_
 have nq_t2_t5 := bn k_t2 J1k
 replace k_t2 := k_t2.o hO
 replace k_t4 := k_t4.o hO
 replace Z0 := Sl.off Z0 hO f0
 replace off0 := off0.o hO
 have k_t5 := h_
 clear hO h_ J1k
 refine J3 ?_
 go_upto_region 2 with fail
 refine wp_region_lit ?_
 refine L0A ?_ k_t2
 refine LnA ?_ (z := J0 .u32 8 (fun _ => 0)) (t := 194) (k := .u32) (n := 8) (f := h)
 intro J13 W7 J3e hO h_
 have nq_t2_t6 := bn k_t2 J3e
 have J91 := bn k_t4 J3e
 have J92 := bn k_t5 J3e
 have Q78 := J2k (Sl.lt Z0) J3e
 have Q96 := fbn off0 J3e
 replace k_t2 := k_t2.o hO
 replace k_t4 := k_t4.o hO
 replace k_t5 := k_t5.o hO
 replace Z0 := Sl.off Z0 hO f0
 replace off0 := off0.o hO
 have k_t6 := h_
 clear hO h_ J3e
 refine J3 ?_
 go_wp2_with fail
 go_loopw [14] (fun ii wr => ∃ (i : Nat), (i ≤ 64) ∧ (ii = .int .i64 (i : Int)) ∧ Off [] w wr ∧ Blk wr J0a (J0 .u32 8 h) 194 ∧ Blk wr Q06 (J0 .u32 8 (fun _ => 0)) 194 ∧ Blk wr J47 (J0 .u32 64 (J9 (bt l) 64)) 231 ∧ Blk wr J13 (J0 .u32 8 (J8 Z6 (J9 (bt l) 64) h i)) 194 ∧ Sl wr (.slice (some adr) l.length c) l)
  (fun ii _ => 64 - (intOf ii).toNat)
 case atStart => exact ⟨0, Nat.zero_le _, rfl, off0, k_t2, k_t4, k_t5, k_t6, Z0⟩
 case round =>
  obtain ⟨i, hi, rfl, off0, k_t2, k_t4, k_t5, k_t6, Z0⟩ := hrel
  obtain ⟨W8, eW_⟩ := J67 off0
  subst eW_
  by_cases h64 : i < 64
  ·
   have _f := h64
   go_upto_region 4 with fail
   refine wp_region_lit ?_
   refine Lw ?_ (v := .bool true)
   refine J3 ?_
   go_upto_region 6 with fail
   refine Rx 28 ?_
   refine Xw ?_ (v := .pointer (some ⟨J13, 0 + 7, none⟩)) (hv := fun _ _ => J5 (m := 8) (by decide) (by omega) Tryz.underlying194 (by kernel_rfl) rfl rfl rfl)
   refine Xc ?_ (v := .int .u32 ((J8 Z6 (J9 (bt l) 64) h i) 7)) (V5 k_t6) (hj := by rw [Nat.zero_add]; exact J6 _ _ _ _ (by omega))
   refine Xw ?_ (v := .pointer (some ⟨J13, 0 + 4, none⟩)) (hv := fun _ _ => J5 (m := 8) (by decide) (by omega) Tryz.underlying194 (by kernel_rfl) rfl rfl rfl)
   refine Xc ?_ (v := .int .u32 ((J8 Z6 (J9 (bt l) 64) h i) 4)) (V5 k_t6) (hj := by rw [Nat.zero_add]; exact J6 _ _ _ _ (by omega))
   refine Xf ?_ (fun W hW => Y0a ((J8 Z6 (J9 (bt l) 64) h i) 4) 6 11 25 (by decide) (by decide) (by decide) W)
   refine Xw ?_ (v := .int .u32 (ad4 ((J8 Z6 (J9 (bt l) 64) h i) 7) (J8s ((J8 Z6 (J9 (bt l) 64) h i) 4) 6 11 25))) (hv := fun _ _ => J4n rfl rfl rfl)
   refine Xw ?_ (v := .pointer (some ⟨J13, 0 + 4, none⟩)) (hv := fun _ _ => J5 (m := 8) (by decide) (by omega) Tryz.underlying194 (by kernel_rfl) rfl rfl rfl)
   refine Xc ?_ (v := .int .u32 ((J8 Z6 (J9 (bt l) 64) h i) 4)) (V5 k_t6) (hj := by rw [Nat.zero_add]; exact J6 _ _ _ _ (by omega))
   refine Xw ?_ (v := .pointer (some ⟨J13, 0 + 5, none⟩)) (hv := fun _ _ => J5 (m := 8) (by decide) (by omega) Tryz.underlying194 (by kernel_rfl) rfl rfl rfl)
   refine Xc ?_ (v := .int .u32 ((J8 Z6 (J9 (bt l) 64) h i) 5)) (V5 k_t6) (hj := by rw [Nat.zero_add]; exact J6 _ _ _ _ (by omega))
   refine Xw ?_ (v := .int .u32 (an4 ((J8 Z6 (J9 (bt l) 64) h i) 4) ((J8 Z6 (J9 (bt l) 64) h i) 5))) (hv := fun _ _ => J9e rfl rfl rfl)
   refine Xw ?_ (v := .pointer (some ⟨J13, 0 + 4, none⟩)) (hv := fun _ _ => J5 (m := 8) (by decide) (by omega) Tryz.underlying194 (by kernel_rfl) rfl rfl rfl)
   refine Xc ?_ (v := .int .u32 ((J8 Z6 (J9 (bt l) 64) h i) 4)) (V5 k_t6) (hj := by rw [Nat.zero_add]; exact J6 _ _ _ _ (by omega))
   refine Xw ?_ (v := .int .u32 (nt4 ((J8 Z6 (J9 (bt l) 64) h i) 4))) (hv := fun _ _ => Y0d rfl rfl)
   refine Xw ?_ (v := .pointer (some ⟨J13, 0 + 6, none⟩)) (hv := fun _ _ => J5 (m := 8) (by decide) (by omega) Tryz.underlying194 (by kernel_rfl) rfl rfl rfl)
   refine Xc ?_ (v := .int .u32 ((J8 Z6 (J9 (bt l) 64) h i) 6)) (V5 k_t6) (hj := by rw [Nat.zero_add]; exact J6 _ _ _ _ (by omega))
   refine Xw ?_ (v := .int .u32 (an4 (nt4 ((J8 Z6 (J9 (bt l) 64) h i) 4)) ((J8 Z6 (J9 (bt l) 64) h i) 6))) (hv := fun _ _ => J9e rfl rfl rfl)
   refine Xw ?_ (v := .int .u32 (xo4 (an4 ((J8 Z6 (J9 (bt l) 64) h i) 4) ((J8 Z6 (J9 (bt l) 64) h i) 5)) (an4 (nt4 ((J8 Z6 (J9 (bt l) 64) h i) 4)) ((J8 Z6 (J9 (bt l) 64) h i) 6)))) (hv := fun _ _ => J6j rfl rfl rfl)
   refine Xw ?_ (v := .int .u32 (ad4 (ad4 ((J8 Z6 (J9 (bt l) 64) h i) 7) (J8s ((J8 Z6 (J9 (bt l) 64) h i) 4) 6 11 25)) (xo4 (an4 ((J8 Z6 (J9 (bt l) 64) h i) 4) ((J8 Z6 (J9 (bt l) 64) h i) 5)) (an4 (nt4 ((J8 Z6 (J9 (bt l) 64) h i) 4)) ((J8 Z6 (J9 (bt l) 64) h i) 6))))) (hv := fun _ _ => J4n rfl rfl rfl)
   refine Xv ?_
   refine Xw ?_ (v := .pointer (some ⟨11, 0 + i, none⟩)) (hv := fun _ _ => J5 (m := 64) (by decide) (by omega) Tryz.underlying231 (by kernel_rfl) rfl rfl rfl)
   refine Xc ?_ (v := .int .u32 (Z6 i)) ((J1a HG.out off0.ext).1) (hj := by rw [Nat.zero_add]; exact J6 _ _ _ _ (by omega))
   refine Xw ?_ (v := .int .u32 (ad4 (ad4 (ad4 ((J8 Z6 (J9 (bt l) 64) h i) 7) (J8s ((J8 Z6 (J9 (bt l) 64) h i) 4) 6 11 25)) (xo4 (an4 ((J8 Z6 (J9 (bt l) 64) h i) 4) ((J8 Z6 (J9 (bt l) 64) h i) 5)) (an4 (nt4 ((J8 Z6 (J9 (bt l) 64) h i) 4)) ((J8 Z6 (J9 (bt l) 64) h i) 6)))) (Z6 i))) (hv := fun _ _ => J4n rfl rfl rfl)
   refine Xv ?_
   refine Xw ?_ (v := .pointer (some ⟨J47, 0 + i, none⟩)) (hv := fun _ _ => J5 (m := 64) (by decide) (by omega) Tryz.underlying231 (by kernel_rfl) rfl rfl rfl)
   refine Xc ?_ (v := .int .u32 ((J9 (bt l) 64) i)) (V5 k_t5) (hj := by rw [Nat.zero_add]; exact J6 _ _ _ _ (by omega))
   refine Xw ?_ (v := .int .u32 (rT4 Z6 (J9 (bt l) 64) i (J8 Z6 (J9 (bt l) 64) h i)))
   refine Xv ?_
   refine Z4 fun W9 hE => ?_
   have hO := Z7 hE
   replace k_t2 := k_t2.o hO
   replace k_t4 := k_t4.o hO
   replace k_t5 := k_t5.o hO
   replace k_t6 := k_t6.o hO
   replace Z0 := Sl.off Z0 hO f0
   replace off0 := off0.o hO
   clear hO hE
   refine LN ?_
   go_upto_region 7 with fail
   refine Rx 22 ?_
   refine Xw ?_ (v := .pointer (some ⟨J13, 0 + 0, none⟩)) (hv := fun _ _ => J5 (m := 8) (by decide) (by omega) Tryz.underlying194 (by kernel_rfl) rfl rfl rfl)
   refine Xc ?_ (v := .int .u32 ((J8 Z6 (J9 (bt l) 64) h i) 0)) (V5 k_t6) (hj := by rw [Nat.zero_add]; exact J6 _ _ _ _ (by omega))
   refine Xf ?_ (fun W hW => Y0a ((J8 Z6 (J9 (bt l) 64) h i) 0) 2 13 22 (by decide) (by decide) (by decide) W)
   refine Xw ?_ (v := .pointer (some ⟨J13, 0 + 0, none⟩)) (hv := fun _ _ => J5 (m := 8) (by decide) (by omega) Tryz.underlying194 (by kernel_rfl) rfl rfl rfl)
   refine Xc ?_ (v := .int .u32 ((J8 Z6 (J9 (bt l) 64) h i) 0)) (V5 k_t6) (hj := by rw [Nat.zero_add]; exact J6 _ _ _ _ (by omega))
   refine Xw ?_ (v := .pointer (some ⟨J13, 0 + 1, none⟩)) (hv := fun _ _ => J5 (m := 8) (by decide) (by omega) Tryz.underlying194 (by kernel_rfl) rfl rfl rfl)
   refine Xc ?_ (v := .int .u32 ((J8 Z6 (J9 (bt l) 64) h i) 1)) (V5 k_t6) (hj := by rw [Nat.zero_add]; exact J6 _ _ _ _ (by omega))
   refine Xw ?_ (v := .int .u32 (an4 ((J8 Z6 (J9 (bt l) 64) h i) 0) ((J8 Z6 (J9 (bt l) 64) h i) 1))) (hv := fun _ _ => J9e rfl rfl rfl)
   refine Xw ?_ (v := .pointer (some ⟨J13, 0 + 0, none⟩)) (hv := fun _ _ => J5 (m := 8) (by decide) (by omega) Tryz.underlying194 (by kernel_rfl) rfl rfl rfl)
   refine Xc ?_ (v := .int .u32 ((J8 Z6 (J9 (bt l) 64) h i) 0)) (V5 k_t6) (hj := by rw [Nat.zero_add]; exact J6 _ _ _ _ (by omega))
   refine Xw ?_ (v := .pointer (some ⟨J13, 0 + 2, none⟩)) (hv := fun _ _ => J5 (m := 8) (by decide) (by omega) Tryz.underlying194 (by kernel_rfl) rfl rfl rfl)
   refine Xc ?_ (v := .int .u32 ((J8 Z6 (J9 (bt l) 64) h i) 2)) (V5 k_t6) (hj := by rw [Nat.zero_add]; exact J6 _ _ _ _ (by omega))
   refine Xw ?_ (v := .int .u32 (an4 ((J8 Z6 (J9 (bt l) 64) h i) 0) ((J8 Z6 (J9 (bt l) 64) h i) 2))) (hv := fun _ _ => J9e rfl rfl rfl)
   refine Xw ?_ (v := .int .u32 (xo4 (an4 ((J8 Z6 (J9 (bt l) 64) h i) 0) ((J8 Z6 (J9 (bt l) 64) h i) 1)) (an4 ((J8 Z6 (J9 (bt l) 64) h i) 0) ((J8 Z6 (J9 (bt l) 64) h i) 2)))) (hv := fun _ _ => J6j rfl rfl rfl)
   refine Xw ?_ (v := .pointer (some ⟨J13, 0 + 1, none⟩)) (hv := fun _ _ => J5 (m := 8) (by decide) (by omega) Tryz.underlying194 (by kernel_rfl) rfl rfl rfl)
   refine Xc ?_ (v := .int .u32 ((J8 Z6 (J9 (bt l) 64) h i) 1)) (V5 k_t6) (hj := by rw [Nat.zero_add]; exact J6 _ _ _ _ (by omega))
   refine Xw ?_ (v := .pointer (some ⟨J13, 0 + 2, none⟩)) (hv := fun _ _ => J5 (m := 8) (by decide) (by omega) Tryz.underlying194 (by kernel_rfl) rfl rfl rfl)
   refine Xc ?_ (v := .int .u32 ((J8 Z6 (J9 (bt l) 64) h i) 2)) (V5 k_t6) (hj := by rw [Nat.zero_add]; exact J6 _ _ _ _ (by omega))
   refine Xw ?_ (v := .int .u32 (an4 ((J8 Z6 (J9 (bt l) 64) h i) 1) ((J8 Z6 (J9 (bt l) 64) h i) 2))) (hv := fun _ _ => J9e rfl rfl rfl)
   refine Xw ?_ (v := .int .u32 (xo4 (xo4 (an4 ((J8 Z6 (J9 (bt l) 64) h i) 0) ((J8 Z6 (J9 (bt l) 64) h i) 1)) (an4 ((J8 Z6 (J9 (bt l) 64) h i) 0) ((J8 Z6 (J9 (bt l) 64) h i) 2))) (an4 ((J8 Z6 (J9 (bt l) 64) h i) 1) ((J8 Z6 (J9 (bt l) 64) h i) 2)))) (hv := fun _ _ => J6j rfl rfl rfl)
   refine Xw ?_ (v := .int .u32 (rU4 (J8 Z6 (J9 (bt l) 64) h i)))
   refine Xv ?_
   refine Z4 fun W10 hE => ?_
   have hO := Z7 hE
   replace k_t2 := k_t2.o hO
   replace k_t4 := k_t4.o hO
   replace k_t5 := k_t5.o hO
   replace k_t6 := k_t6.o hO
   replace Z0 := Sl.off Z0 hO f0
   replace off0 := off0.o hO
   clear hO hE
   refine LN ?_
   go_upto_region 8 with fail
   refine wp_region_lit ?_
   refine Lv ?_
   refine Lv ?_
   refine Lw ?_ (v := .int .u32 (ad4 (rT4 Z6 (J9 (bt l) 64) i (J8 Z6 (J9 (bt l) 64) h i)) (rU4 (J8 Z6 (J9 (bt l) 64) h i)))) (hv := J4n rfl rfl rfl)
   refine Lw ?_ (v := .pointer (some ⟨J13, 0 + 0, none⟩)) (hv := J5 (m := 8) (by decide) (by omega) Tryz.underlying194 (by kernel_rfl) rfl rfl rfl)
   refine Lg ?_ k_t6 (v := .int .u32 ((J8 Z6 (J9 (bt l) 64) h i) 0)) (hj := by rw [Nat.zero_add]; exact J6 _ _ _ _ (by omega))
   refine Lw ?_ (v := .pointer (some ⟨J13, 0 + 1, none⟩)) (hv := J5 (m := 8) (by decide) (by omega) Tryz.underlying194 (by kernel_rfl) rfl rfl rfl)
   refine Lg ?_ k_t6 (v := .int .u32 ((J8 Z6 (J9 (bt l) 64) h i) 1)) (hj := by rw [Nat.zero_add]; exact J6 _ _ _ _ (by omega))
   refine Lw ?_ (v := .pointer (some ⟨J13, 0 + 2, none⟩)) (hv := J5 (m := 8) (by decide) (by omega) Tryz.underlying194 (by kernel_rfl) rfl rfl rfl)
   refine Lg ?_ k_t6 (v := .int .u32 ((J8 Z6 (J9 (bt l) 64) h i) 2)) (hj := by rw [Nat.zero_add]; exact J6 _ _ _ _ (by omega))
   refine Lw ?_ (v := .pointer (some ⟨J13, 0 + 3, none⟩)) (hv := J5 (m := 8) (by decide) (by omega) Tryz.underlying194 (by kernel_rfl) rfl rfl rfl)
   refine Lg ?_ k_t6 (v := .int .u32 ((J8 Z6 (J9 (bt l) 64) h i) 3)) (hj := by rw [Nat.zero_add]; exact J6 _ _ _ _ (by omega))
   refine Lv ?_
   refine Lw ?_ (v := .int .u32 (ad4 ((J8 Z6 (J9 (bt l) 64) h i) 3) (rT4 Z6 (J9 (bt l) 64) i (J8 Z6 (J9 (bt l) 64) h i)))) (hv := J4n rfl rfl rfl)
   refine Lw ?_ (v := .pointer (some ⟨J13, 0 + 4, none⟩)) (hv := J5 (m := 8) (by decide) (by omega) Tryz.underlying194 (by kernel_rfl) rfl rfl rfl)
   refine Lg ?_ k_t6 (v := .int .u32 ((J8 Z6 (J9 (bt l) 64) h i) 4)) (hj := by rw [Nat.zero_add]; exact J6 _ _ _ _ (by omega))
   refine Lw ?_ (v := .pointer (some ⟨J13, 0 + 5, none⟩)) (hv := J5 (m := 8) (by decide) (by omega) Tryz.underlying194 (by kernel_rfl) rfl rfl rfl)
   refine Lg ?_ k_t6 (v := .int .u32 ((J8 Z6 (J9 (bt l) 64) h i) 5)) (hj := by rw [Nat.zero_add]; exact J6 _ _ _ _ (by omega))
   refine Lw ?_ (v := .pointer (some ⟨J13, 0 + 6, none⟩)) (hv := J5 (m := 8) (by decide) (by omega) Tryz.underlying194 (by kernel_rfl) rfl rfl rfl)
   refine Lg ?_ k_t6 (v := .int .u32 ((J8 Z6 (J9 (bt l) 64) h i) 6)) (hj := by rw [Nat.zero_add]; exact J6 _ _ _ _ (by omega))
   refine Lw ?_ (v := .agg (J0 .u32 8 (J8 Z6 (J9 (bt l) 64) h (i + 1)))) (hv := by first | rfl | (go_simp; rfl))
   refine LpA ?_ k_t6 (k := .u32) (n := 8) (f := J8 Z6 (J9 (bt l) 64) h (i + 1))
   intro W11 hO h_
   replace k_t6 : Blk W11 J13 (J0 .u32 8 (J8 Z6 (J9 (bt l) 64) h (i + 1))) 194 := h_
   clear h_
   replace k_t2 := k_t2.p hO nq_t2_t6
   replace k_t4 := k_t4.p hO J91
   replace k_t5 := k_t5.p hO J92
   replace Z0 := Sl.off Z0 hO (f1 Q78)
   replace off0 := off0.p hO Q96
   clear hO
   refine J3 ?_
   go_wp2
   go_roundw
   case rel => exact ⟨i + 1, by omega, by go_num, off0, k_t2, k_t4, k_t5, k_t6, Z0⟩
   case measure => simp [intOf]; omega
  have _f := h64
  obtain rfl : i = 64 := by omega
  go_upto_region 4 with fail
  refine wp_region_lit ?_
  refine Lw ?_ (v := .bool false)
  refine J3 ?_
  go_wp2_with fail
  go_loopw [86] (fun ii wr => ∃ (i : Nat), (i ≤ 8) ∧ (ii = .int .i64 (i : Int)) ∧ Off [] w wr ∧ Blk wr J0a (J0 .u32 8 (mx4 h (J8 Z6 (J9 (bt l) 64) h 64) i)) 194 ∧ Blk wr Q06 (J0 .u32 8 (fun _ => 0)) 194 ∧ Blk wr J47 (J0 .u32 64 (J9 (bt l) 64)) 231 ∧ Blk wr J13 (J0 .u32 8 (J8 Z6 (J9 (bt l) 64) h 64)) 194 ∧ Sl wr (.slice (some adr) l.length c) l)
   (fun ii _ => 8 - (intOf ii).toNat)
  case atStart => exact ⟨0, Nat.zero_le _, rfl, off0, (by rw [Z04]; exact k_t2), k_t4, k_t5, k_t6, Z0⟩
  case round =>
   obtain ⟨i, hi, rfl, off0, k_t2, k_t4, k_t5, k_t6, Z0⟩ := hrel
   obtain ⟨W9, eW_⟩ := J67 off0
   subst eW_
   by_cases h8 : i < 8
   ·
    have _f := h8
    go_upto_region 11 with fail
    refine wp_region_lit ?_
    refine Lw ?_ (v := .bool true)
    refine J3 ?_
    go_upto_region 13 with fail
    refine Rx 8 ?_
    refine Xv ?_
    refine Xw ?_ (v := .pointer (some ⟨J0a, 0 + i, none⟩)) (hv := fun _ _ => J5 (m := 8) (by decide) (by omega) Tryz.underlying194 (by kernel_rfl) rfl rfl rfl)
    refine Xc ?_ (v := .int .u32 ((mx4 h (J8 Z6 (J9 (bt l) 64) h 64) i) i)) (V5 k_t2) (hj := by rw [Nat.zero_add]; exact J6 _ _ _ _ (by omega))
    refine Xv ?_
    refine Xw ?_ (v := .pointer (some ⟨J13, 0 + i, none⟩)) (hv := fun _ _ => J5 (m := 8) (by decide) (by omega) Tryz.underlying194 (by kernel_rfl) rfl rfl rfl)
    refine Xc ?_ (v := .int .u32 ((J8 Z6 (J9 (bt l) 64) h 64) i)) (V5 k_t6) (hj := by rw [Nat.zero_add]; exact J6 _ _ _ _ (by omega))
    refine Xw ?_ (v := .int .u32 (ad4 ((mx4 h (J8 Z6 (J9 (bt l) 64) h 64) i) i) ((J8 Z6 (J9 (bt l) 64) h 64) i))) (hv := fun _ _ => J4n rfl rfl rfl)
    refine Xw ?_ (v := .pointer (some ⟨J0a, 0 + i, none⟩)) (hv := fun _ _ => J5 (m := 8) (by decide) (by omega) Tryz.underlying194 (by kernel_rfl) rfl rfl rfl)
    refine Z4 fun W10 hE => ?_
    have hO := Z7 hE
    replace k_t2 := k_t2.o hO
    replace k_t4 := k_t4.o hO
    replace k_t5 := k_t5.o hO
    replace k_t6 := k_t6.o hO
    replace Z0 := Sl.off Z0 hO f0
    replace off0 := off0.o hO
    clear hO hE
    refine J28 (v := .int .u32 (ad4 ((mx4 h (J8 Z6 (J9 (bt l) 64) h 64) i) i) ((J8 Z6 (J9 (bt l) 64) h 64) i))) ⟨rfl, rfl⟩ (by rfl) rfl rfl rfl k_t2 (by rw [J2, Nat.zero_add]; omega) (by kernel_rfl) ?_
    (try simp only [Act.put, mA, mB, mC])
    intro W11 hO h_
    rw [Nat.zero_add, K0] at h_
    replace k_t2 : Blk W11 J0a (J0 .u32 8 (upd (mx4 h (J8 Z6 (J9 (bt l) 64) h 64) i) i (ad4 ((mx4 h (J8 Z6 (J9 (bt l) 64) h 64) i) i) ((J8 Z6 (J9 (bt l) 64) h 64) i)))) 194 := h_
    clear h_
    replace k_t4 := k_t4.p hO nq_t2_t4.symm
    replace k_t5 := k_t5.p hO nq_t2_t5.symm
    replace k_t6 := k_t6.p hO nq_t2_t6.symm
    replace Z0 := Sl.off Z0 hO (f1 Q77)
    replace off0 := off0.p hO J0r
    clear hO
    refine LN ?_
    go_wp2
    go_roundw
    case rel => exact ⟨i + 1, by omega, by go_num, off0, (by rw [← Z03]; exact k_t2), k_t4, k_t5, k_t6, Z0⟩
    case measure => simp [intOf]; omega
   have _f := h8
   obtain rfl : i = 8 := by omega
   rw [Y3y] at k_t2
   go_upto_region 11 with fail
   refine wp_region_lit ?_
   refine Lw ?_ (v := .bool false)
   refine J3 ?_
   go_upto_region 15 with fail
   refine wp_region_lit ?_
   refine L0A ?_ k_t2
   refine LpA ?_ k_t4 (k := .u32) (n := 8) (f := J79 h (bt l))
   intro W10 hO h_
   replace k_t4 : Blk W10 Q06 (J0 .u32 8 (J79 h (bt l))) 194 := h_
   clear h_
   replace off0 := off0.p hO J4r
   clear hO
   refine J3 ?_
   go_wp2
   refine bodyPost_ret (Y0 rfl rfl k_t4 (by kernel_rfl) (by rw [J2]; kernel_rfl)) rfl ⟨rfl, off0.ext⟩
end
end Go.Proofs.YtejkmhgkkibafaaGreatDoor
