/- custumallaw07.EdwardsLaws. Conditions: the cells of the variables hold the numbers that it asks for. -/
import Derived.Test.YtghajiagbfcmdaaDoorEdL
import Derived.Test.YtghajiagbfcmdaaDoorGd
namespace Go.Proofs.YtghajiagbfcmdaaDoor
set_option linter.unusedSimpArgs false
set_option linter.unusedVariables false
open Go.RowKit
attribute [local irreducible] wpList wpTr
variable {kn : Kn}
/-- what is over, behind k bytes -/
def cy (A B k : Nat) : Nat := (A % 2 ^ (8 * k) + B % 2 ^ (8 * k)) / 2 ^ (8 * k)
/-- the sum's bytes so far -/
def sumf (A B k : Nat) : Nat → Int := fun j => if j < k then byt (A + B) j else 0
theorem sum0 (A B : Nat) : arrK .u8 32 (byt 0) = arrK .u8 32 (sumf A B 0) := by
  apply arrK_congr
  intro j _
  unfold sumf byt
  rw [if_neg (by omega), Nat.zero_div]; rfl
theorem sum_step (A B k : Nat) : arrK .u8 32 (upd (sumf A B k) k (byt (A + B) k)) = arrK .u8 32 (sumf A B (k + 1)) := by
  apply arrK_congr
  intro j _
  unfold sumf
  by_cases h : j = k
  · subst h; rw [upd_same, if_pos (by omega)]
  · rw [upd_other _ _ _ _ h]
    by_cases h2 : j < k
    · rw [if_pos h2, if_pos (by omega)]
    · rw [if_neg h2, if_neg (by omega)]
theorem sum_all (A B : Nat) : arrK .u8 32 (sumf A B 32) = arrK .u8 32 (byt (A + B)) := by
  apply arrK_congr
  intro j hj
  unfold sumf
  rw [if_pos hj]
theorem dg_split (A k : Nat) : A % 2 ^ (8 * (k + 1)) = A % 2 ^ (8 * k) + 2 ^ (8 * k) * (A / 2 ^ (8 * k) % 256) := by
  rw [Nat.mul_add, Nat.pow_add, Nat.mod_mul]
theorem cy_le (A B k : Nat) : cy A B k ≤ 1 := by
  unfold cy
  have hp := Nat.two_pow_pos (8 * k)
  have h1 := Nat.mod_lt A hp
  have h2 := Nat.mod_lt B hp
  exact Nat.le_of_lt_succ (Nat.div_lt_of_lt_mul (by omega))
theorem cy_next (A B k : Nat) : (A / 2 ^ (8 * k) % 256 + B / 2 ^ (8 * k) % 256 + cy A B k) / 256 = cy A B (k + 1) := by
  unfold cy
  rw [dg_split, dg_split, Nat.mul_add 8, Nat.pow_add, ← Nat.div_div_eq_div_mul]
  generalize hP : 2 ^ (8 * k) = P
  have hp : 0 < P := by rw [← hP]; exact Nat.two_pow_pos _
  congr 1
  rw [show A % P + P * (A / P % 256) + (B % P + P * (B / P % 256)) = A % P + B % P + P * (A / P % 256 + B / P % 256) by rw [Nat.mul_add]; omega, Nat.add_mul_div_left _ _ hp]
  omega
theorem cy_byte (A B k : Nat) : (A / 2 ^ (8 * k) % 256 + B / 2 ^ (8 * k) % 256 + cy A B k) % 256 = (A + B) / 2 ^ (8 * k) % 256 := by
  unfold cy
  generalize hP : 2 ^ (8 * k) = P
  have hp : 0 < P := by rw [← hP]; exact Nat.two_pow_pos _
  have e : (A + B) / P = A / P + B / P + (A % P + B % P) / P := by
    have h1 := Nat.div_add_mod A P
    have h2 := Nat.div_add_mod B P
    have h3 : A + B = A % P + B % P + P * (A / P + B / P) := by rw [Nat.mul_add]; omega
    rw [h3, Nat.add_mul_div_left _ _ hp]
    have h4 : (A % P + B % P + P * (A / P + B / P)) = A + B := h3.symm
    omega
  rw [e]
  omega
theorem run_addI {w : World} {o : Oper} {a : Act} {x y : Operand} {t t' : TypeId} {p q r : Int} (h : IntKind.i64.wrap (p + q) = r) (ho : o.op = .binOp .add t x y t') (hx : a.eval x = .int .i64 p) (hy : a.eval y = .int .i64 q) : (execOp a.eval o).run Tryd.prog w = .ok (.value (.int .i64 r)) w := by
  subst h; simp only [execOp, ho, hx, hy]; rfl
theorem run_shrI {w : World} {o : Oper} {a : Act} {x y : Operand} {t t' : TypeId} {p r : Int} {k : IntKind} {n : Nat} (hn : n ≤ 64) (h : p / 2 ^ n = r) (ho : o.op = .binOp .shr t x y t') (hx : a.eval x = .int .i64 p) (hy : a.eval y = .int k (n : Int)) : (execOp a.eval o).run Tryd.prog w = .ok (.value (.int .i64 r)) w := by
  have h2 : min ((n : Int)).toNat IntKind.i64.bits = n := by rw [Int.toNat_natCast]; exact Nat.min_eq_left hn
  subst h
  simp only [execOp, ho, hx, hy, eqGuard, binOp, Sem.run_bind]
  simp [Op.shift, h2, go_sem, Sem.run_bind]
theorem lt_255 {A : Nat} (h : A < 2 ^ 255) : A < 2 ^ 256 := Nat.lt_trans h (by decide)
theorem sum_256 {A B : Nat} (h : A < 2 ^ 255) (k : B < 2 ^ 255) : A + B < 2 ^ 256 := by omega
theorem byt_nat (A k : Nat) : byt A k = ((A / 2 ^ (8 * k) % 256 : Nat) : Int) := rfl

set_option maxRecDepth 100000 in
set_option maxHeartbeats 800000 in
theorem lLaws_c (hd : kn.d) (hb : kn.b) {N M : Nat} (hN : N < 2 ^ 256) (hM : M < 2 ^ 256) :
    ∀ w, GE kn w → Calls Tryd.prog 3 #[.agg (arrK .u8 32 (byt N)), .agg (arrK .u8 32 (byt M))] w fun e w' => Ret (.bool true) w w' e := by
  obtain ⟨A, qA⟩ : ∃ v_, v_ = N % 2 ^ 255 := ⟨_, rfl⟩
  have hA : A < 2 ^ 255 := by rw [qA]; exact Nat.mod_lt _ (by decide)
  have HA := Lib.hid qA
  clear qA
  obtain ⟨B, qB⟩ : ∃ v_, v_ = M % 2 ^ 255 := ⟨_, rfl⟩
  have hB : B < 2 ^ 255 := by rw [qB]; exact Nat.mod_lt _ (by decide)
  have HB := Lib.hid qB
  clear qB
  obtain ⟨x1, y2, z3, t4, r5, c6⟩ := eBase_c hb
  obtain ⟨x7, y8, z9, t10, r11, c12⟩ := eTimes_c hd r5.rw (N := A) (lt_255 hA)
  obtain ⟨x13, y14, z15, t16, r17, c18⟩ := eBase_c hb
  obtain ⟨x19, y20, z21, t22, r23, c24⟩ := eTimes_c hd r17.rw (N := B) (lt_255 hB)
  obtain ⟨x25, y26, z27, t28, r29, c30⟩ := eAdd_c hd r11.rw r23.rw
  obtain ⟨x31, y32, z33, t34, r35, c36⟩ := eBase_c hb
  obtain ⟨x37, y38, z39, t40, r41, c42⟩ := eTimes_c hd r35.rw (N := (A + B)) (sum_256 hA hB)
  have cs43 := eSame_c (kn := kn) r29.rw r41.rw
  rw [decide_eq_true ((pm_add BP_on A B).symm)] at cs43
  obtain ⟨x44, y45, z46, t47, r48, c49⟩ := eAdd_c hd r11.rw r23.rw
  obtain ⟨x50, y51, z52, t53, r54, c55⟩ := eAdd_c hd r23.rw r11.rw
  have cs56 := eSame_c (kn := kn) r48.rw r54.rw
  rw [decide_eq_true (padd_comm _ _)] at cs56
  obtain ⟨x57, y58, z59, t60, r61, c62⟩ := eAdd_c hd r11.rw r23.rw
  obtain ⟨x63, y64, z65, t66, r67, c68⟩ := eNeg_c (kn := kn) r11.rw
  obtain ⟨x69, y70, z71, t72, r73, c74⟩ := eAdd_c hd r61.rw r67.rw
  have cs75 := eSame_c (kn := kn) r73.rw r23.rw
  rw [decide_eq_true (padd_cancel (pm_on BP_on A) (pm_on BP_on B))] at cs75
  obtain ⟨x76, y77, z78, t79, r80, c81⟩ := eTimes_c hd r11.rw (N := 8) (by decide)
  obtain ⟨x82, y83, z84, t85, r86, c87⟩ := eEight_c (kn := kn) r11.rw
  have cs88 := eSame_c (kn := kn) r80.rw r86.rw
  rw [decide_eq_true (rfl)] at cs88
  intro w hG
  have off0 : Off [] w w := Off.refl _ _
  have sz := off0.size
  go_enter Tryd.func3, Tryd.ntmps3
  go_upto_region 0 with fail
  refine wp_region_lit ?_
  refine wpL_new (z := arrK .u8 32 (byt N)) (t := 22) (by rfl) (by first | kernel_rfl | (go_simp; done) | (go_simp; rfl)) ?_
  (try simp only [Act.put, mA, mB, mC])
  intro p2_1 W1 n_t2 hO h_
  have fb_t2 : Fb p2_1 w.heap.size [] := fb_new (Nat.le_trans sz n_t2)
  replace off0 := off0.step hO i0
  replace sz := off0.size
  have k_t2 := h_
  clear hO h_ n_t2
  refine wpL_new (z := arrK .u8 32 (byt M)) (t := 22) (by rfl) (by first | kernel_rfl | (go_simp; done) | (go_simp; rfl)) ?_
  (try simp only [Act.put, mA, mB, mC])
  intro p3_2 W2 n_t3 hO h_
  have nq_t2_t3 : p2_1 ≠ p3_2 := Nat.ne_of_lt (Nat.lt_of_lt_of_le (blk_lt k_t2) n_t3)
  have fb_t3 : Fb p3_2 w.heap.size [] := fb_new (Nat.le_trans sz n_t3)
  replace k_t2 := blk_off k_t2 hO nm0
  replace off0 := off0.step hO i0
  replace sz := off0.size
  have k_t3 := h_
  clear hO h_ n_t3
  refine wpL_val (v := .bool false) (by rfl) (by first | rfl | (go_simp; done) | (go_simp; with_reducible rfl) | (go_simp; omega)) ?_
  (try simp only [Act.put, mA, mB, mC])
  refine wpL_nil ?_
  go_upto_region 1 with fail
  refine wp_region_trj (.q 0 (.q 3 (.b 1 (.q 2 (.q 6 (.b 4 (.q 5 (.e 7 (.q 8 (.e 9 .z)))) 7 (.e 4 (.q 5 (.q 8 (.e 9 .z))))))) 4 (.q 5 (.e 1 (.q 2 (.q 6 (.e 7 (.q 8 (.e 9 .z)))))))))) (fun W => True) (fun a0 a_ wr => a_ = putL a0 [(11, .pointer (some ⟨p2_1, 0 + 31, none⟩)), (12, .int .u8 ((byt N) 31)), (13, .int .u8 (bits .and .u8 (byt N 31) 127)), (14, .pointer (some ⟨p3_2, 0 + 31, none⟩)), (15, .int .u8 ((byt M) 31)), (16, .int .u8 (bits .and .u8 (byt M 31) 127)), (17, .pointer (some ⟨p2_1, 0 + 31, none⟩)), (18, .pointer (some ⟨p3_2, 0 + 31, none⟩))] ∧ Off [] w wr ∧ Blk wr p2_1 (arrK .u8 32 (upd (byt N) 31 (bits .and .u8 (byt N 31) 127))) 22 ∧ Blk wr p3_2 (arrK .u8 32 (upd (byt M) 31 (bits .and .u8 (byt M 31) 127))) 22) (by kernel_rfl) (by kernel_rfl) ?_ ?_
  · have _f := True.intro
    intro W3 hO
    replace k_t2 := blk_off k_t2 hO nm0
    replace k_t3 := blk_off k_t3 hO nm0
    replace off0 := off0.step hO i0
    replace sz := off0.size
    clear hO
    refine ⟨trivial, ?_⟩
    refine wpT_q (v := .pointer (some ⟨p2_1, 0 + 31, none⟩)) rfl (by rfl) (fun W hS => by exact (run_ixarr (m := 32) (by decide) (by decide) Tryd.underlying22 (by kernel_rfl) rfl rfl rfl)) ?_
    (try simp only [Act.put, mA, mB, mC])
    refine wpT_q (v := .pointer (some ⟨p3_2, 0 + 31, none⟩)) rfl (by rfl) (fun W hS => by exact (run_ixarr (m := 32) (by decide) (by decide) Tryd.underlying22 (by kernel_rfl) rfl rfl rfl)) ?_
    (try simp only [Act.put, mA, mB, mC])
    refine wpT_b rfl rfl ?_ ?_
    · have _f := True.intro
      refine wpL_get (v := .int .u8 ((byt N) 31)) (by rfl) rfl rfl k_t2 (by rw [Nat.zero_add]; exact arrK_get _ _ _ _ (by decide)) (by kernel_rfl) ?_
      (try simp only [Act.put, mA, mB, mC])
      refine wpT_n (fun W => True) (fun W hS => trivial) trivial ?_
      refine wpT_q (v := .int .u8 (bits .and .u8 (byt N 31) 127)) rfl (by rfl) (fun W hS => by exact run_andU rfl rfl rfl rfl) ?_
      (try simp only [Act.put, mA, mB, mC])
      refine wpT_q (v := .pointer (some ⟨p2_1, 0 + 31, none⟩)) rfl (by rfl) (fun W hS => by exact (run_ixarr (m := 32) (by decide) (by decide) Tryd.underlying22 (by kernel_rfl) rfl rfl rfl)) ?_
      (try simp only [Act.put, mA, mB, mC])
      refine wpT_b rfl rfl ?_ ?_
      · have _f := True.intro
        refine wpL_get (v := .int .u8 ((byt M) 31)) (by rfl) rfl rfl k_t3 (by rw [Nat.zero_add]; exact arrK_get _ _ _ _ (by decide)) (by kernel_rfl) ?_
        (try simp only [Act.put, mA, mB, mC])
        refine wpT_n (fun W => True) (fun W hS => trivial) trivial ?_
        refine wpT_q (v := .int .u8 (bits .and .u8 (byt M 31) 127)) rfl (by rfl) (fun W hS => by exact run_andU rfl rfl rfl rfl) ?_
        (try simp only [Act.put, mA, mB, mC])
        refine wpT_e rfl ?_
        refine wpL_put1 (v := .int .u8 (bits .and .u8 (byt N 31) 127)) ⟨rfl, rfl⟩ (by rfl) rfl rfl rfl k_t2 (by rw [arrK_size, Nat.zero_add]; decide) (by kernel_rfl) ?_
        (try simp only [Act.put, mA, mB, mC])
        intro W4 hO h_
        rw [Nat.zero_add, arrK_set] at h_
        replace k_t2 : Blk W4 p2_1 (arrK .u8 32 (upd (byt N) 31 (bits .and .u8 (byt N 31) 127))) 22 := h_
        clear h_
        replace k_t3 := blk_off k_t3 hO (nm1 nq_t2_t3.symm)
        replace off0 := off0.step hO (i1 fb_t2)
        replace sz := off0.size
        clear hO
        refine wpT_n (fun W => True) (fun W hS => trivial) trivial ?_
        refine wpT_q (v := .pointer (some ⟨p3_2, 0 + 31, none⟩)) rfl (by rfl) (fun W hS => by exact (run_ixarr (m := 32) (by decide) (by decide) Tryd.underlying22 (by kernel_rfl) rfl rfl rfl)) ?_
        (try simp only [Act.put, mA, mB, mC])
        refine wpT_e rfl ?_
        refine wpL_put1 (v := .int .u8 (bits .and .u8 (byt M 31) 127)) ⟨rfl, rfl⟩ (by rfl) rfl rfl rfl k_t3 (by rw [arrK_size, Nat.zero_add]; decide) (by kernel_rfl) ?_
        (try simp only [Act.put, mA, mB, mC])
        intro W5 hO h_
        rw [Nat.zero_add, arrK_set] at h_
        replace k_t3 : Blk W5 p3_2 (arrK .u8 32 (upd (byt M) 31 (bits .and .u8 (byt M 31) 127))) 22 := h_
        clear h_
        replace k_t2 := blk_off k_t2 hO (nm1 nq_t2_t3)
        replace off0 := off0.step hO (i1 fb_t3)
        replace sz := off0.size
        clear hO
        refine wpT_n (fun W => True) (fun W hS => trivial) trivial ?_
        refine wpT_z ?_
        exact ⟨(by simp only [putL, List.foldl_cons, List.foldl_nil, Act.put, mA, mB, mC]), off0, k_t2, k_t3⟩
      · have _f := True.intro
        refine wpL_put1 (v := .int .u8 (bits .and .u8 (byt N 31) 127)) ⟨rfl, rfl⟩ (by rfl) rfl rfl rfl k_t2 (by rw [arrK_size, Nat.zero_add]; decide) (by kernel_rfl) ?_
        (try simp only [Act.put, mA, mB, mC])
        intro W4 hO h_
        rw [Nat.zero_add, arrK_set] at h_
        replace k_t2 : Blk W4 p2_1 (arrK .u8 32 (upd (byt N) 31 (bits .and .u8 (byt N 31) 127))) 22 := h_
        clear h_
        replace k_t3 := blk_off k_t3 hO (nm1 nq_t2_t3.symm)
        replace off0 := off0.step hO (i1 fb_t2)
        replace sz := off0.size
        clear hO
        refine wpT_n (fun W => True) (fun W hS => trivial) trivial ?_
        refine wpT_e rfl ?_
        refine wpL_get (v := .int .u8 ((byt M) 31)) (by rfl) rfl rfl k_t3 (by rw [Nat.zero_add]; exact arrK_get _ _ _ _ (by decide)) (by kernel_rfl) ?_
        (try simp only [Act.put, mA, mB, mC])
        refine wpT_n (fun W => True) (fun W hS => trivial) trivial ?_
        refine wpT_q (v := .int .u8 (bits .and .u8 (byt M 31) 127)) rfl (by rfl) (fun W hS => by exact run_andU rfl rfl rfl rfl) ?_
        (try simp only [Act.put, mA, mB, mC])
        refine wpT_q (v := .pointer (some ⟨p3_2, 0 + 31, none⟩)) rfl (by rfl) (fun W hS => by exact (run_ixarr (m := 32) (by decide) (by decide) Tryd.underlying22 (by kernel_rfl) rfl rfl rfl)) ?_
        (try simp only [Act.put, mA, mB, mC])
        refine wpT_e rfl ?_
        refine wpL_put1 (v := .int .u8 (bits .and .u8 (byt M 31) 127)) ⟨rfl, rfl⟩ (by rfl) rfl rfl rfl k_t3 (by rw [arrK_size, Nat.zero_add]; decide) (by kernel_rfl) ?_
        (try simp only [Act.put, mA, mB, mC])
        intro W5 hO h_
        rw [Nat.zero_add, arrK_set] at h_
        replace k_t3 : Blk W5 p3_2 (arrK .u8 32 (upd (byt M) 31 (bits .and .u8 (byt M 31) 127))) 22 := h_
        clear h_
        replace k_t2 := blk_off k_t2 hO (nm1 nq_t2_t3)
        replace off0 := off0.step hO (i1 fb_t3)
        replace sz := off0.size
        clear hO
        refine wpT_n (fun W => True) (fun W hS => trivial) trivial ?_
        refine wpT_z ?_
        exact ⟨(by simp only [putL, List.foldl_cons, List.foldl_nil, Act.put, mA, mB, mC]), off0, k_t2, k_t3⟩
    · have _f := True.intro
      refine wpL_get (v := .int .u8 ((byt M) 31)) (by rfl) rfl rfl k_t3 (by rw [Nat.zero_add]; exact arrK_get _ _ _ _ (by decide)) (by kernel_rfl) ?_
      (try simp only [Act.put, mA, mB, mC])
      refine wpT_n (fun W => True) (fun W hS => trivial) trivial ?_
      refine wpT_q (v := .int .u8 (bits .and .u8 (byt M 31) 127)) rfl (by rfl) (fun W hS => by exact run_andU rfl rfl rfl rfl) ?_
      (try simp only [Act.put, mA, mB, mC])
      refine wpT_e rfl ?_
      refine wpL_get (v := .int .u8 ((byt N) 31)) (by rfl) rfl rfl k_t2 (by rw [Nat.zero_add]; exact arrK_get _ _ _ _ (by decide)) (by kernel_rfl) ?_
      (try simp only [Act.put, mA, mB, mC])
      refine wpT_n (fun W => True) (fun W hS => trivial) trivial ?_
      refine wpT_q (v := .int .u8 (bits .and .u8 (byt N 31) 127)) rfl (by rfl) (fun W hS => by exact run_andU rfl rfl rfl rfl) ?_
      (try simp only [Act.put, mA, mB, mC])
      refine wpT_q (v := .pointer (some ⟨p2_1, 0 + 31, none⟩)) rfl (by rfl) (fun W hS => by exact (run_ixarr (m := 32) (by decide) (by decide) Tryd.underlying22 (by kernel_rfl) rfl rfl rfl)) ?_
      (try simp only [Act.put, mA, mB, mC])
      refine wpT_e rfl ?_
      refine wpL_put1 (v := .int .u8 (bits .and .u8 (byt N 31) 127)) ⟨rfl, rfl⟩ (by rfl) rfl rfl rfl k_t2 (by rw [arrK_size, Nat.zero_add]; decide) (by kernel_rfl) ?_
      (try simp only [Act.put, mA, mB, mC])
      intro W4 hO h_
      rw [Nat.zero_add, arrK_set] at h_
      replace k_t2 : Blk W4 p2_1 (arrK .u8 32 (upd (byt N) 31 (bits .and .u8 (byt N 31) 127))) 22 := h_
      clear h_
      replace k_t3 := blk_off k_t3 hO (nm1 nq_t2_t3.symm)
      replace off0 := off0.step hO (i1 fb_t2)
      replace sz := off0.size
      clear hO
      refine wpT_n (fun W => True) (fun W hS => trivial) trivial ?_
      refine wpT_q (v := .pointer (some ⟨p3_2, 0 + 31, none⟩)) rfl (by rfl) (fun W hS => by exact (run_ixarr (m := 32) (by decide) (by decide) Tryd.underlying22 (by kernel_rfl) rfl rfl rfl)) ?_
      (try simp only [Act.put, mA, mB, mC])
      refine wpT_e rfl ?_
      refine wpL_put1 (v := .int .u8 (bits .and .u8 (byt M 31) 127)) ⟨rfl, rfl⟩ (by rfl) rfl rfl rfl k_t3 (by rw [arrK_size, Nat.zero_add]; decide) (by kernel_rfl) ?_
      (try simp only [Act.put, mA, mB, mC])
      intro W5 hO h_
      rw [Nat.zero_add, arrK_set] at h_
      replace k_t3 : Blk W5 p3_2 (arrK .u8 32 (upd (byt M) 31 (bits .and .u8 (byt M 31) 127))) 22 := h_
      clear h_
      replace k_t2 := blk_off k_t2 hO (nm1 nq_t2_t3)
      replace off0 := off0.step hO (i1 fb_t3)
      replace sz := off0.size
      clear hO
      refine wpT_n (fun W => True) (fun W hS => trivial) trivial ?_
      refine wpT_z ?_
      exact ⟨(by simp only [putL, List.foldl_cons, List.foldl_nil, Act.put, mA, mB, mC]), off0, k_t2, k_t3⟩
  rintro _ W6 ⟨rfl, off0, k_t2, k_t3⟩
  have sz := off0.size
  simp only [putL, List.foldl_cons, List.foldl_nil]
  (try simp only [Act.put, mA, mB, mC])
  rw [clr31 (clr_bit' hN), ← HA.out] at k_t2
  rw [clr31 (clr_bit' hM), ← HB.out] at k_t3
  go_upto_region 2 with fail
  refine wp_region_lit ?_
  refine wpL_new (z := arrK .u8 32 (byt 0)) (t := 22) (by rfl) (by first | kernel_rfl | (go_simp; done) | (go_simp; rfl)) ?_
  (try simp only [Act.put, mA, mB, mC])
  intro p5_7 W7 n_t5 hO h_
  have nq_t2_t5 : p2_1 ≠ p5_7 := Nat.ne_of_lt (Nat.lt_of_lt_of_le (blk_lt k_t2) n_t5)
  have nq_t3_t5 : p3_2 ≠ p5_7 := Nat.ne_of_lt (Nat.lt_of_lt_of_le (blk_lt k_t3) n_t5)
  have fb_t5 : Fb p5_7 w.heap.size [] := fb_new (Nat.le_trans sz n_t5)
  replace k_t2 := blk_off k_t2 hO nm0
  replace k_t3 := blk_off k_t3 hO nm0
  replace off0 := off0.step hO i0
  replace sz := off0.size
  have k_t5 := h_
  clear hO h_ n_t5
  refine wpL_nil ?_
  go_wp2_with fail
  go_loopw [6, 7] (fun so si wr => ∃ (k : Nat), (k ≤ 32) ∧ (si = .int .i64 (k : Int)) ∧ (so = .int .i64 ((cy A B k : Nat) : Int)) ∧ Off [] w wr ∧ Blk wr p2_1 (arrK .u8 32 (byt A)) 22 ∧ Blk wr p3_2 (arrK .u8 32 (byt B)) 22 ∧ Blk wr p5_7 (arrK .u8 32 (sumf A B k)) 22)
    (fun so si _ => 32 - (intOf si).toNat)
  case atStart => exact ⟨0, Nat.zero_le _, rfl, (by unfold cy; rw [Nat.mul_zero, Nat.pow_zero, Nat.mod_one, Nat.mod_one]; rfl), off0, k_t2, k_t3, (by rw [← sum0]; exact k_t5)⟩
  case round =>
    obtain ⟨k, hk, rfl, rfl, off0, k_t2, k_t3, k_t5⟩ := hrel
    obtain ⟨W8, eW_⟩ := wname off0
    subst eW_
    have sz := off0.size
    by_cases hz : k = 32
    · have _f := hz
      subst hz
      rw [sum_all] at k_t5
      go_upto_region 5 with fail
      refine wp_region_lit ?_
      (refine wpL_val (v := ?_) (by rfl) ?_ ?_; rotate_left 1; (focus (go_simp; first | done | with_reducible rfl)))
      (try simp only [Act.put, mA, mB, mC])
      refine wpL_val (v := .bool false) (by rfl) (by first | rfl | (go_simp; done) | (go_simp; with_reducible rfl) | (go_simp; omega)) ?_
      (try simp only [Act.put, mA, mB, mC])
      refine wpL_nil ?_
      go_upto_region 10 with fail
      refine wp_region_xn 6 [⟨6, 9, p4 0 0 0 0, 28⟩, ⟨7, 10, p4 0 0 0 0, 28⟩] (by kernel_rfl) ?_ (by kernel_rfl) ?_
      · intro x hx
        simp only [List.mem_cons, List.not_mem_nil, or_false] at hx
        rcases hx with rfl | rfl <;> exact ⟨_, rfl, rfl, rfl, fun _ _ => by kernel_rfl⟩
      simp only [List.take_succ_cons, List.take_zero, List.take_nil]
      (try simp only [Act.put, mA, mB, mC])
      ((with_reducible refine wpX_fn (fun W hW => c6 W (GE_ext (GE_ext hG off0.ext) hW)) ?_ rfl ?_ ?_ ?_); (focus rfl); (focus kernel_rfl); (focus rfl); (try simp only [Act.put, mA, mB, mC]))
      refine wpX_load (by rfl) rfl rfl (blk_rd k_t2) (by kernel_rfl) (by rw [arrK_size]; kernel_rfl) ?_
      (try simp only [Act.put, mA, mB, mC])
      ((with_reducible refine wpX_fn (fun W hW => c12 W (GE_ext (GE_ext hG off0.ext) hW)) ?_ rfl ?_ ?_ ?_); (focus rfl); (focus kernel_rfl); (focus rfl); (try simp only [Act.put, mA, mB, mC]))
      ((with_reducible refine wpX_fn (fun W hW => c18 W (GE_ext (GE_ext hG off0.ext) hW)) ?_ rfl ?_ ?_ ?_); (focus rfl); (focus kernel_rfl); (focus rfl); (try simp only [Act.put, mA, mB, mC]))
      refine wpX_load (by rfl) rfl rfl (blk_rd k_t3) (by kernel_rfl) (by rw [arrK_size]; kernel_rfl) ?_
      (try simp only [Act.put, mA, mB, mC])
      ((with_reducible refine wpX_fn (fun W hW => c24 W (GE_ext (GE_ext hG off0.ext) hW)) ?_ rfl ?_ ?_ ?_); (focus rfl); (focus kernel_rfl); (focus rfl); (try simp only [Act.put, mA, mB, mC]))
      refine wpX_nil ?_
      intro β W9 hE hN hD
      obtain ⟨n_t9, h_t9⟩ := hN _ (List.mem_cons_self ..)
      obtain ⟨n_t10, h_t10⟩ := hN _ (List.mem_cons_of_mem _ (List.mem_cons_self ..))
      have nq_t9_t10 := (hD _ (List.mem_cons_of_mem _ (List.mem_cons_self ..)) _ (List.mem_cons_self ..) (by decide)).symm
      clear hN hD
      simp only [putAll, Act.put, mA, mB, mC, List.drop_succ_cons, List.drop_zero, List.drop_nil, List.length_cons, List.length_nil, Nat.add_zero] at n_t9 h_t9 n_t10 h_t10 nq_t9_t10 ⊢
      have hO := off_ext hE
      generalize β 6 = p9_9 at *
      have nq_t2_t9 : p2_1 ≠ p9_9 := Nat.ne_of_lt (Nat.lt_of_lt_of_le (blk_lt k_t2) n_t9)
      have nq_t3_t9 : p3_2 ≠ p9_9 := Nat.ne_of_lt (Nat.lt_of_lt_of_le (blk_lt k_t3) n_t9)
      have nq_t5_t9 : p5_7 ≠ p9_9 := Nat.ne_of_lt (Nat.lt_of_lt_of_le (blk_lt k_t5) n_t9)
      have fb_t9 : Fb p9_9 w.heap.size [] := fb_new (Nat.le_trans sz n_t9)
      generalize β 7 = p10_9 at *
      have nq_t2_t10 : p2_1 ≠ p10_9 := Nat.ne_of_lt (Nat.lt_of_lt_of_le (blk_lt k_t2) n_t10)
      have nq_t3_t10 : p3_2 ≠ p10_9 := Nat.ne_of_lt (Nat.lt_of_lt_of_le (blk_lt k_t3) n_t10)
      have nq_t5_t10 : p5_7 ≠ p10_9 := Nat.ne_of_lt (Nat.lt_of_lt_of_le (blk_lt k_t5) n_t10)
      have fb_t10 : Fb p10_9 w.heap.size [] := fb_new (Nat.le_trans sz n_t10)
      replace k_t2 := blk_off k_t2 hO nm0
      replace k_t3 := blk_off k_t3 hO nm0
      replace k_t5 := blk_off k_t5 hO nm0
      replace off0 := off0.step hO i0
      replace sz := off0.size
      clear hO hE β n_t9 n_t10
      have k_t9 : Blk W9 p9_9 (p4 0 0 0 0) 28 := h_t9
      clear h_t9
      have k_t10 : Blk W9 p10_9 (p4 0 0 0 0) 28 := h_t10
      clear h_t10
      refine wpL_putrow (cells := p4 x7 y8 z9 t10) (by rfl) rfl rfl rfl k_t9 (by kernel_rfl) (by kernel_rfl) (by kernel_rfl) ?_
      (try simp only [Act.put, mA, mB, mC])
      intro W10 hO h_
      replace k_t9 : Blk W10 p9_9 (p4 x7 y8 z9 t10) 28 := h_
      clear h_
      replace k_t2 := blk_off k_t2 hO (nm1 nq_t2_t9)
      replace k_t3 := blk_off k_t3 hO (nm1 nq_t3_t9)
      replace k_t5 := blk_off k_t5 hO (nm1 nq_t5_t9)
      replace k_t10 := blk_off k_t10 hO (nm1 nq_t9_t10.symm)
      replace off0 := off0.step hO (i1 fb_t9)
      replace sz := off0.size
      clear hO
      refine wpL_putrow (cells := p4 x19 y20 z21 t22) (by rfl) rfl rfl rfl k_t10 (by kernel_rfl) (by kernel_rfl) (by kernel_rfl) ?_
      (try simp only [Act.put, mA, mB, mC])
      intro W11 hO h_
      replace k_t10 : Blk W11 p10_9 (p4 x19 y20 z21 t22) 28 := h_
      clear h_
      replace k_t2 := blk_off k_t2 hO (nm1 nq_t2_t10)
      replace k_t3 := blk_off k_t3 hO (nm1 nq_t3_t10)
      replace k_t5 := blk_off k_t5 hO (nm1 nq_t5_t10)
      replace k_t9 := blk_off k_t9 hO (nm1 nq_t9_t10)
      replace off0 := off0.step hO (i1 fb_t10)
      replace sz := off0.size
      clear hO
      refine wpL_nil ?_
      first | with_reducible refine NoPanic.normal (Q := Exit.then _ _) ?_ | with_reducible refine NoPanic.normal ?_
      go_upto_region 11 with fail
      refine wp_region_xn 38 [] (by kernel_rfl) (fun x hx => by cases hx) (by kernel_rfl) ?_
      simp only [List.take_succ_cons, List.take_zero, List.take_nil]
      (try simp only [Act.put, mA, mB, mC])
      ((with_reducible refine wpX_fn (fun W hW => lBases_c hb W (GE_ext (GE_ext hG off0.ext) hW)) ?_ rfl ?_ ?_ ?_); (focus rfl); (focus kernel_rfl); (focus rfl); (try simp only [Act.put, mA, mB, mC]))
      (refine wpX_val (v := ?_) (by rfl) (fun W hW => ?_) ?_; rotate_left 1; (focus (go_simp; first | done | with_reducible rfl)); (try simp only [Act.put, mA, mB, mC]))
      refine wpX_load (by rfl) rfl rfl (blk_rd k_t9) (by kernel_rfl) (by kernel_rfl) ?_
      (try simp only [Act.put, mA, mB, mC])
      refine wpX_load (by rfl) rfl rfl (blk_rd k_t10) (by kernel_rfl) (by kernel_rfl) ?_
      (try simp only [Act.put, mA, mB, mC])
      ((with_reducible refine wpX_fn (fun W hW => c30 W (GE_ext (GE_ext hG off0.ext) hW)) ?_ rfl ?_ ?_ ?_); (focus rfl); (focus kernel_rfl); (focus rfl); (try simp only [Act.put, mA, mB, mC]))
      ((with_reducible refine wpX_fn (fun W hW => c36 W (GE_ext (GE_ext hG off0.ext) hW)) ?_ rfl ?_ ?_ ?_); (focus rfl); (focus kernel_rfl); (focus rfl); (try simp only [Act.put, mA, mB, mC]))
      refine wpX_load (by rfl) rfl rfl (blk_rd k_t5) (by kernel_rfl) (by rw [arrK_size]; kernel_rfl) ?_
      (try simp only [Act.put, mA, mB, mC])
      ((with_reducible refine wpX_fn (fun W hW => c42 W (GE_ext (GE_ext hG off0.ext) hW)) ?_ rfl ?_ ?_ ?_); (focus rfl); (focus kernel_rfl); (focus rfl); (try simp only [Act.put, mA, mB, mC]))
      ((with_reducible refine wpX_fn (fun W hW => cs43 W (GE_ext (GE_ext hG off0.ext) hW)) ?_ rfl ?_ ?_ ?_); (focus rfl); (focus kernel_rfl); (focus rfl); (try simp only [Act.put, mA, mB, mC]))
      (refine wpX_val (v := ?_) (by rfl) (fun W hW => ?_) ?_; rotate_left 1; (focus (go_simp; first | done | with_reducible rfl)); (try simp only [Act.put, mA, mB, mC]))
      (refine wpX_val (v := ?_) (by rfl) (fun W hW => ?_) ?_; rotate_left 1; (focus (go_simp; first | done | with_reducible rfl)); (try simp only [Act.put, mA, mB, mC]))
      refine wpX_load (by rfl) rfl rfl (blk_rd k_t9) (by kernel_rfl) (by kernel_rfl) ?_
      (try simp only [Act.put, mA, mB, mC])
      refine wpX_load (by rfl) rfl rfl (blk_rd k_t10) (by kernel_rfl) (by kernel_rfl) ?_
      (try simp only [Act.put, mA, mB, mC])
      ((with_reducible refine wpX_fn (fun W hW => c49 W (GE_ext (GE_ext hG off0.ext) hW)) ?_ rfl ?_ ?_ ?_); (focus rfl); (focus kernel_rfl); (focus rfl); (try simp only [Act.put, mA, mB, mC]))
      refine wpX_load (by rfl) rfl rfl (blk_rd k_t10) (by kernel_rfl) (by kernel_rfl) ?_
      (try simp only [Act.put, mA, mB, mC])
      refine wpX_load (by rfl) rfl rfl (blk_rd k_t9) (by kernel_rfl) (by kernel_rfl) ?_
      (try simp only [Act.put, mA, mB, mC])
      ((with_reducible refine wpX_fn (fun W hW => c55 W (GE_ext (GE_ext hG off0.ext) hW)) ?_ rfl ?_ ?_ ?_); (focus rfl); (focus kernel_rfl); (focus rfl); (try simp only [Act.put, mA, mB, mC]))
      ((with_reducible refine wpX_fn (fun W hW => cs56 W (GE_ext (GE_ext hG off0.ext) hW)) ?_ rfl ?_ ?_ ?_); (focus rfl); (focus kernel_rfl); (focus rfl); (try simp only [Act.put, mA, mB, mC]))
      (refine wpX_val (v := ?_) (by rfl) (fun W hW => ?_) ?_; rotate_left 1; (focus (go_simp; first | done | with_reducible rfl)); (try simp only [Act.put, mA, mB, mC]))
      (refine wpX_val (v := ?_) (by rfl) (fun W hW => ?_) ?_; rotate_left 1; (focus (go_simp; first | done | with_reducible rfl)); (try simp only [Act.put, mA, mB, mC]))
      refine wpX_load (by rfl) rfl rfl (blk_rd k_t9) (by kernel_rfl) (by kernel_rfl) ?_
      (try simp only [Act.put, mA, mB, mC])
      refine wpX_load (by rfl) rfl rfl (blk_rd k_t10) (by kernel_rfl) (by kernel_rfl) ?_
      (try simp only [Act.put, mA, mB, mC])
      ((with_reducible refine wpX_fn (fun W hW => c62 W (GE_ext (GE_ext hG off0.ext) hW)) ?_ rfl ?_ ?_ ?_); (focus rfl); (focus kernel_rfl); (focus rfl); (try simp only [Act.put, mA, mB, mC]))
      refine wpX_load (by rfl) rfl rfl (blk_rd k_t9) (by kernel_rfl) (by kernel_rfl) ?_
      (try simp only [Act.put, mA, mB, mC])
      ((with_reducible refine wpX_fn (fun W hW => c68 W (GE_ext (GE_ext hG off0.ext) hW)) ?_ rfl ?_ ?_ ?_); (focus rfl); (focus kernel_rfl); (focus rfl); (try simp only [Act.put, mA, mB, mC]))
      ((with_reducible refine wpX_fn (fun W hW => c74 W (GE_ext (GE_ext hG off0.ext) hW)) ?_ rfl ?_ ?_ ?_); (focus rfl); (focus kernel_rfl); (focus rfl); (try simp only [Act.put, mA, mB, mC]))
      refine wpX_load (by rfl) rfl rfl (blk_rd k_t10) (by kernel_rfl) (by kernel_rfl) ?_
      (try simp only [Act.put, mA, mB, mC])
      ((with_reducible refine wpX_fn (fun W hW => cs75 W (GE_ext (GE_ext hG off0.ext) hW)) ?_ rfl ?_ ?_ ?_); (focus rfl); (focus kernel_rfl); (focus rfl); (try simp only [Act.put, mA, mB, mC]))
      (refine wpX_val (v := ?_) (by rfl) (fun W hW => ?_) ?_; rotate_left 1; (focus (go_simp; first | done | with_reducible rfl)); (try simp only [Act.put, mA, mB, mC]))
      (refine wpX_val (v := ?_) (by rfl) (fun W hW => ?_) ?_; rotate_left 1; (focus (go_simp; first | done | with_reducible rfl)); (try simp only [Act.put, mA, mB, mC]))
      refine wpX_load (by rfl) rfl rfl (blk_rd k_t9) (by kernel_rfl) (by kernel_rfl) ?_
      (try simp only [Act.put, mA, mB, mC])
      refine wpX_val (v := .agg (arrK .u8 32 (byt 8))) (by rfl) (fun _ _ => by kernel_rfl) ?_
      (try simp only [Act.put, mA, mB, mC])
      ((with_reducible refine wpX_fn (fun W hW => c81 W (GE_ext (GE_ext hG off0.ext) hW)) ?_ rfl ?_ ?_ ?_); (focus rfl); (focus kernel_rfl); (focus rfl); (try simp only [Act.put, mA, mB, mC]))
      refine wpX_load (by rfl) rfl rfl (blk_rd k_t9) (by kernel_rfl) (by kernel_rfl) ?_
      (try simp only [Act.put, mA, mB, mC])
      ((with_reducible refine wpX_fn (fun W hW => c87 W (GE_ext (GE_ext hG off0.ext) hW)) ?_ rfl ?_ ?_ ?_); (focus rfl); (focus kernel_rfl); (focus rfl); (try simp only [Act.put, mA, mB, mC]))
      ((with_reducible refine wpX_fn (fun W hW => cs88 W (GE_ext (GE_ext hG off0.ext) hW)) ?_ rfl ?_ ?_ ?_); (focus rfl); (focus kernel_rfl); (focus rfl); (try simp only [Act.put, mA, mB, mC]))
      (refine wpX_val (v := ?_) (by rfl) (fun W hW => ?_) ?_; rotate_left 1; (focus (go_simp; first | done | with_reducible rfl)); (try simp only [Act.put, mA, mB, mC]))
      (refine wpX_val (v := ?_) (by rfl) (fun W hW => ?_) ?_; rotate_left 1; (focus (go_simp; first | done | with_reducible rfl)); (try simp only [Act.put, mA, mB, mC]))
      refine wpX_nil ?_
      intro β W12 hE hN hD
      clear hN hD
      simp only [putAll, Act.put, mA, mB, mC, List.drop_succ_cons, List.drop_zero, List.drop_nil, List.length_cons, List.length_nil, Nat.add_zero]
      have hO := off_ext hE
      replace k_t2 := blk_off k_t2 hO nm0
      replace k_t3 := blk_off k_t3 hO nm0
      replace k_t5 := blk_off k_t5 hO nm0
      replace k_t9 := blk_off k_t9 hO nm0
      replace k_t10 := blk_off k_t10 hO nm0
      replace off0 := off0.step hO i0
      replace sz := off0.size
      clear hO hE β
      refine wpL_nil ?_
      first | with_reducible refine NoPanic.normal (Q := Exit.then _ _) ?_ | with_reducible refine NoPanic.normal ?_
      go_wp2
      exact bodyPost_ret (v := .bool true) (by simp only [results, Tryd.results3]; go_simp) rfl ⟨rfl, off0.ext⟩
    · have _f := hz
      have hk32 : k < 32 := by omega
      have hcy := cy_le A B k
      have xA := byt_nat A k
      have xB := byt_nat B k
      obtain ⟨x, hx⟩ : ∃ x, x = A / 2 ^ (8 * k) % 256 := ⟨_, rfl⟩
      obtain ⟨y, hy⟩ : ∃ y, y = B / 2 ^ (8 * k) % 256 := ⟨_, rfl⟩
      have hx8 : x < 256 := by rw [hx]; exact Nat.mod_lt _ (by decide)
      have hy8 : y < 256 := by rw [hy]; exact Nat.mod_lt _ (by decide)
      have w3 : IntKind.i64.wrap (byt A k + byt B k) = byt A k + byt B k := IntWalk.i64_in _ (by rw [xA, xB, ← hx, ← hy]; omega)
      obtain ⟨S, hS⟩ : ∃ S, S = x + y + cy A B k := ⟨_, rfl⟩
      have w4 : IntKind.i64.wrap (byt A k + byt B k + ((cy A B k : Nat) : Int)) = (S : Int) := by rw [IntWalk.i64_in _ (by rw [xA, xB, ← hx, ← hy]; omega), xA, xB, ← hx, ← hy, hS]; omega
      have w5 : IntKind.u8.wrap (S : Int) = byt (A + B) k := by rw [byt_nat, ← cy_byte, ← hx, ← hy, ← hS, IntKind.wrap_u8]; omega
      have w6 : (S : Int) / 2 ^ 8 = ((cy A B (k + 1) : Nat) : Int) := by rw [← cy_next, ← hx, ← hy, ← hS]; omega
      have w1 : IntKind.i64.wrap (byt A k) = byt A k := IntWalk.i64_in _ (by rw [xA, ← hx]; omega)
      have w2 : IntKind.i64.wrap (byt B k) = byt B k := IntWalk.i64_in _ (by rw [xB, ← hy]; omega)
      have W3 := Lib.hid w3
      have W4 := Lib.hid w4
      have W6 := Lib.hid w6
      clear w3 w4 w6 hS hx hy xA xB hx8 hy8 hcy
      go_upto_region 5 with fail
      refine wp_region_lit ?_
      (refine wpL_val (v := ?_) (by rfl) ?_ ?_; rotate_left 1; (focus (go_simp; first | done | with_reducible rfl)))
      (try simp only [Act.put, mA, mB, mC])
      refine wpL_val (v := .bool true) (by rfl) (by first | rfl | (go_simp; done) | (go_simp; with_reducible rfl) | (go_simp; omega)) ?_
      (try simp only [Act.put, mA, mB, mC])
      refine wpL_nil ?_
      go_upto_region 7 with fail
      refine wp_region_xn 12 [] (by kernel_rfl) (fun x hx => by cases hx) (by kernel_rfl) ?_
      simp only [List.take_succ_cons, List.take_zero, List.take_nil]
      (try simp only [Act.put, mA, mB, mC])
      (refine wpX_val (v := ?_) (by rfl) (fun W hW => ?_) ?_; rotate_left 1; (focus (go_simp; first | done | with_reducible rfl)); (try simp only [Act.put, mA, mB, mC]))
      refine wpX_val (v := .pointer (some ⟨p2_1, 0 + k, none⟩)) (by rfl) (fun _ _ => run_ixarr (m := 32) (by decide) (by omega) Tryd.underlying22 (by kernel_rfl) rfl rfl rfl) ?_
      (try simp only [Act.put, mA, mB, mC])
      refine wpX_cell (v := .int .u8 ((byt A) k)) (blk_rd k_t2) (by rw [Nat.zero_add]; exact arrK_get _ _ _ _ (by omega)) (by rfl) rfl rfl (by kernel_rfl) ?_
      (try simp only [Act.put, mA, mB, mC])
      refine wpX_val (v := .int .i64 (byt A k)) (by rfl) (fun _ _ => by first | (go_simp; done) | (go_simp; rw [w1])) ?_
      (try simp only [Act.put, mA, mB, mC])
      (refine wpX_val (v := ?_) (by rfl) (fun W hW => ?_) ?_; rotate_left 1; (focus (go_simp; first | done | with_reducible rfl)); (try simp only [Act.put, mA, mB, mC]))
      refine wpX_val (v := .pointer (some ⟨p3_2, 0 + k, none⟩)) (by rfl) (fun _ _ => run_ixarr (m := 32) (by decide) (by omega) Tryd.underlying22 (by kernel_rfl) rfl rfl rfl) ?_
      (try simp only [Act.put, mA, mB, mC])
      refine wpX_cell (v := .int .u8 ((byt B) k)) (blk_rd k_t3) (by rw [Nat.zero_add]; exact arrK_get _ _ _ _ (by omega)) (by rfl) rfl rfl (by kernel_rfl) ?_
      (try simp only [Act.put, mA, mB, mC])
      refine wpX_val (v := .int .i64 (byt B k)) (by rfl) (fun _ _ => by first | (go_simp; done) | (go_simp; rw [w2])) ?_
      (try simp only [Act.put, mA, mB, mC])
      refine wpX_val (v := .int .i64 (byt A k + byt B k)) (by rfl) (fun _ _ => by exact run_addI W3.out rfl rfl rfl) ?_
      (try simp only [Act.put, mA, mB, mC])
      (refine wpX_val (v := ?_) (by rfl) (fun W hW => ?_) ?_; rotate_left 1; (focus (go_simp; first | done | with_reducible rfl)); (try simp only [Act.put, mA, mB, mC]))
      refine wpX_val (v := .int .i64 (S : Int)) (by rfl) (fun _ _ => by exact run_addI W4.out rfl rfl rfl) ?_
      (try simp only [Act.put, mA, mB, mC])
      (refine wpX_val (v := ?_) (by rfl) (fun W hW => ?_) ?_; rotate_left 1; (focus (go_simp; first | done | with_reducible rfl)); (try simp only [Act.put, mA, mB, mC]))
      refine wpX_nil ?_
      intro β W9 hE hN hD
      clear hN hD
      simp only [putAll, Act.put, mA, mB, mC, List.drop_succ_cons, List.drop_zero, List.drop_nil, List.length_cons, List.length_nil, Nat.add_zero]
      have hO := off_ext hE
      replace k_t2 := blk_off k_t2 hO nm0
      replace k_t3 := blk_off k_t3 hO nm0
      replace k_t5 := blk_off k_t5 hO nm0
      replace off0 := off0.step hO i0
      replace sz := off0.size
      clear hO hE β
      refine wpL_nil ?_
      first | with_reducible refine NoPanic.normal (Q := Exit.then _ _) ?_ | with_reducible refine NoPanic.normal ?_
      go_upto_region 8 with fail
      refine wp_region_lit ?_
      (refine wpL_val (v := ?_) (by rfl) ?_ ?_; rotate_left 1; (focus (go_simp; first | done | with_reducible rfl)))
      (try simp only [Act.put, mA, mB, mC])
      (refine wpL_val (v := ?_) (by rfl) ?_ ?_; rotate_left 1; (focus (go_simp; first | done | with_reducible rfl)))
      (try simp only [Act.put, mA, mB, mC])
      refine wpL_val (v := .int .u8 (byt (A + B) k)) (by rfl) (by first | (go_simp; done) | (go_simp; rw [w5])) ?_
      (try simp only [Act.put, mA, mB, mC])
      refine wpL_val (v := .pointer (some ⟨p5_7, 0 + k, none⟩)) (by rfl) (run_ixarr (m := 32) (by decide) (by omega) Tryd.underlying22 (by kernel_rfl) rfl rfl rfl) ?_
      (try simp only [Act.put, mA, mB, mC])
      refine wpL_put1 (v := .int .u8 (byt (A + B) k)) ⟨rfl, rfl⟩ (by rfl) rfl rfl rfl k_t5 (by rw [arrK_size, Nat.zero_add]; omega) (by kernel_rfl) ?_
      (try simp only [Act.put, mA, mB, mC])
      intro W10 hO h_
      rw [Nat.zero_add, arrK_set] at h_
      replace k_t5 : Blk W10 p5_7 (arrK .u8 32 (upd (sumf A B k) k (byt (A + B) k))) 22 := h_
      clear h_
      replace k_t2 := blk_off k_t2 hO (nm1 nq_t2_t5)
      replace k_t3 := blk_off k_t3 hO (nm1 nq_t3_t5)
      replace off0 := off0.step hO (i1 fb_t5)
      replace sz := off0.size
      clear hO
      refine wpL_nil ?_
      go_upto_region 9 with fail
      refine wp_region_lit ?_
      (refine wpL_val (v := ?_) (by rfl) ?_ ?_; rotate_left 1; (focus (go_simp; first | done | with_reducible rfl)))
      (try simp only [Act.put, mA, mB, mC])
      refine wpL_val (v := .int .i64 ((cy A B (k + 1) : Nat) : Int)) (by rfl) (by exact run_shrI (n := 8) (by decide) W6.out rfl rfl rfl) ?_
      (try simp only [Act.put, mA, mB, mC])
      (refine wpL_val (v := ?_) (by rfl) ?_ ?_; rotate_left 1; (focus (go_simp; first | done | with_reducible rfl)))
      (try simp only [Act.put, mA, mB, mC])
      refine wpL_nil ?_
      go_wp2
      go_roundw
      case rel => exact ⟨k + 1, by omega, by go_num, rfl, off0, k_t2, k_t3, (by rw [← sum_step]; exact k_t5)⟩
      case measure => first | (simp [intOf]; done) | (simp [intOf]; omega)
end Go.Proofs.YtghajiagbfcmdaaDoor
